-- written for this claim by a program of the session
import Derived.Test.YtookpfpmobbhiaaQx0
import Derived.Test.YtookpfpmobbhiaaQx20
import Derived.Test.YtookpfpmobbhiaaQx21
namespace Go.Proofs.Ytookpfpmobbhiaa.Q
open Go.RowKit Go.Proofs.YtookpfpmobbhiaaW.PrintWords Go.Proofs.YtookpfpmobbhiaaW.PrintLast Go.Proofs.YtookpfpmobbhiaaW.PrintMore
attribute [local go_sem] max2_int min2_int max_two min_two max_three min_three max_four min_four   -- for this text's walks alone
set_option linter.unusedVariables false
set_option linter.unusedSimpArgs false

/-! ### usufructref13_Check: function 20 -/
mutual
def usufructref13_Check.j0 : Nat → Bool → ByteArray → Int → List (S49) → Option (Int × Int)
  | 0, _, _, _, _ => none
  | k + 1, x18, x194000, x194001, x194002 => if x18 = true then (some ((-1), 1)) else (if (x194002.length : Int) < 1 then (some ((-1), 2)) else (if (x194002.length : Int) > 32 then (some ((-1), 4)) else (usufructref13_Check.l0 k 0 x194000 x194001 x194002)))
def usufructref13_Check.l0 : Nat → Int → ByteArray → Int → List (S49) → Option (Int × Int)
  | 0, _, _, _, _ => none
  | k + 1, x4, x194000, x194001, x194002 => if x4 < (x194002.length : Int) then (if 0 ≤ x4 then ((usufructref02_Good.f k ((rd_T49 x194002 x4).f0)).bind fun t197 => (if t197 = true then ((usufructref02_Good.f k ((rd_T49 x194002 x4).f1)).bind fun t198 => (usufructref13_Check.j2 k x4 (!t198) x194000 x194001 x194002 ((rd_T49 x194002 x4).f0) ((rd_T49 x194002 x4).f1) ((rd_T49 x194002 x4).f2) ((rd_T49 x194002 x4).f3.f0) ((rd_T49 x194002 x4).f3.f1) ((rd_T49 x194002 x4).f3.f2) ((rd_T49 x194002 x4).f3.f3) ((rd_T49 x194002 x4).f4.f0) ((rd_T49 x194002 x4).f4.f1) ((rd_T49 x194002 x4).f4.f2) ((rd_T49 x194002 x4).f4.f3) ((rd_T49 x194002 x4).f5))) else (usufructref13_Check.j2 k x4 true x194000 x194001 x194002 ((rd_T49 x194002 x4).f0) ((rd_T49 x194002 x4).f1) ((rd_T49 x194002 x4).f2) ((rd_T49 x194002 x4).f3.f0) ((rd_T49 x194002 x4).f3.f1) ((rd_T49 x194002 x4).f3.f2) ((rd_T49 x194002 x4).f3.f3) ((rd_T49 x194002 x4).f4.f0) ((rd_T49 x194002 x4).f4.f1) ((rd_T49 x194002 x4).f4.f2) ((rd_T49 x194002 x4).f4.f3) ((rd_T49 x194002 x4).f5)))) else (none)) else (some ((-1), 0))
def usufructref13_Check.j2 : Nat → Int → Bool → ByteArray → Int → List (S49) → ByteArray → ByteArray → Int → Int → Int → Int → Int → Int → Int → Int → Int → Int → Option (Int × Int)
  | 0, _, _, _, _, _, _, _, _, _, _, _, _, _, _, _, _, _ => none
  | k + 1, x4, x48, x194000, x194001, x194002, x197000, x197001, x197002, x197003, x197004, x197005, x197006, x197007, x197008, x197009, x197010, x197011 => if x48 = true then (some (x4, 10)) else (usufructref13_Check.l1 k x4 0 x194000 x194001 x194002 x197000 x197001 x197002 x197003 x197004 x197005 x197006 x197007 x197008 x197009 x197010 x197011)
def usufructref13_Check.l1 : Nat → Int → Int → ByteArray → Int → List (S49) → ByteArray → ByteArray → Int → Int → Int → Int → Int → Int → Int → Int → Int → Int → Option (Int × Int)
  | 0, _, _, _, _, _, _, _, _, _, _, _, _, _, _, _, _, _ => none
  | k + 1, x4, x6, x194000, x194001, x194002, x197000, x197001, x197002, x197003, x197004, x197005, x197006, x197007, x197008, x197009, x197010, x197011 => if x6 < x4 then (if 0 ≤ x6 then (if x6 < (x194002.length : Int) then (if ((rd_T49 x194002 x6).f0).toList = x197000.toList then (some (x4, 6)) else (usufructref13_Check.l1 k x4 (wrap64 (x6 + 1)) x194000 x194001 x194002 x197000 x197001 x197002 x197003 x197004 x197005 x197006 x197007 x197008 x197009 x197010 x197011)) else (none)) else (none)) else (if x197002 < 1 then (usufructref13_Check.j4 k x4 true x194000 x194001 x194002 x197000 x197001 x197002 x197003 x197004 x197005 x197006 x197007 x197008 x197009 x197010 x197011) else (if x197002 > 1099511627776 then (usufructref13_Check.j4 k x4 true x194000 x194001 x194002 x197000 x197001 x197002 x197003 x197004 x197005 x197006 x197007 x197008 x197009 x197010 x197011) else (if x197011 < 0 then (usufructref13_Check.j4 k x4 true x194000 x194001 x194002 x197000 x197001 x197002 x197003 x197004 x197005 x197006 x197007 x197008 x197009 x197010 x197011) else (usufructref13_Check.j4 k x4 (decide (x197011 > 255)) x194000 x194001 x194002 x197000 x197001 x197002 x197003 x197004 x197005 x197006 x197007 x197008 x197009 x197010 x197011))))
def usufructref13_Check.j4 : Nat → Int → Bool → ByteArray → Int → List (S49) → ByteArray → ByteArray → Int → Int → Int → Int → Int → Int → Int → Int → Int → Int → Option (Int × Int)
  | 0, _, _, _, _, _, _, _, _, _, _, _, _, _, _, _, _, _ => none
  | k + 1, x4, x82, x194000, x194001, x194002, x197000, x197001, x197002, x197003, x197004, x197005, x197006, x197007, x197008, x197009, x197010, x197011 => if x82 = true then (some (x4, 1)) else ((usufructref11_Good.f x197003 x197004 x197005 x197006).bind fun t200 => (if t200 = true then ((usufructref11_Good.f x197007 x197008 x197009 x197010).bind fun t201 => (if t201 = true then (usufructref13_Check.l0 k (wrap64 (x4 + 1)) x194000 x194001 x194002) else (some (x4, 3)))) else (some (x4, 3))))
end
def usufructref13_Check.f (k : Nat) (a0_0 : ByteArray) (a0_1 : Int) (l0_2 : List (S49)) : Option (Int × Int) := (usufructref02_Good.f k a0_0).bind fun t194 => (if t194 = true then (if a0_1 < 0 then (usufructref13_Check.j0 k true a0_0 a0_1 l0_2) else (usufructref13_Check.j0 k (decide (a0_1 > 1099511627776)) a0_0 a0_1 l0_2)) else (some ((-1), 10)))
theorem usufructref13_Check.mono_l : ∀ k, (∀ y0 y1 y2 y3, LeO (usufructref13_Check.j0 k y0 y1 y2 y3) (usufructref13_Check.j0 (k + 1) y0 y1 y2 y3)) ∧ (∀ y0 y1 y2 y3, LeO (usufructref13_Check.l0 k y0 y1 y2 y3) (usufructref13_Check.l0 (k + 1) y0 y1 y2 y3)) ∧ (∀ y0 y1 y2 y3 y4 y5 y6 y7 y8 y9 y10 y11 y12 y13 y14 y15 y16, LeO (usufructref13_Check.j2 k y0 y1 y2 y3 y4 y5 y6 y7 y8 y9 y10 y11 y12 y13 y14 y15 y16) (usufructref13_Check.j2 (k + 1) y0 y1 y2 y3 y4 y5 y6 y7 y8 y9 y10 y11 y12 y13 y14 y15 y16)) ∧ (∀ y0 y1 y2 y3 y4 y5 y6 y7 y8 y9 y10 y11 y12 y13 y14 y15 y16, LeO (usufructref13_Check.l1 k y0 y1 y2 y3 y4 y5 y6 y7 y8 y9 y10 y11 y12 y13 y14 y15 y16) (usufructref13_Check.l1 (k + 1) y0 y1 y2 y3 y4 y5 y6 y7 y8 y9 y10 y11 y12 y13 y14 y15 y16)) ∧ (∀ y0 y1 y2 y3 y4 y5 y6 y7 y8 y9 y10 y11 y12 y13 y14 y15 y16, LeO (usufructref13_Check.j4 k y0 y1 y2 y3 y4 y5 y6 y7 y8 y9 y10 y11 y12 y13 y14 y15 y16) (usufructref13_Check.j4 (k + 1) y0 y1 y2 y3 y4 y5 y6 y7 y8 y9 y10 y11 y12 y13 y14 y15 y16))
  | 0 => ⟨fun _ _ _ _ r h => by simp [usufructref13_Check.j0] at h, fun _ _ _ _ r h => by simp [usufructref13_Check.l0] at h, fun _ _ _ _ _ _ _ _ _ _ _ _ _ _ _ _ _ r h => by simp [usufructref13_Check.j2] at h, fun _ _ _ _ _ _ _ _ _ _ _ _ _ _ _ _ _ r h => by simp [usufructref13_Check.l1] at h, fun _ _ _ _ _ _ _ _ _ _ _ _ _ _ _ _ _ r h => by simp [usufructref13_Check.j4] at h⟩
  | k + 1 => by
    obtain ⟨ih0, ih1, ih2, ih3, ih4⟩ := usufructref13_Check.mono_l k
    refine ⟨?_, ?_, ?_, ?_, ?_⟩
    · intro y0 y1 y2 y3
      unfold usufructref13_Check.j0
      repeat' first
      | (with_reducible exact ih0 _ _ _ _)
      | (with_reducible exact ih1 _ _ _ _)
      | (with_reducible exact ih2 _ _ _ _ _ _ _ _ _ _ _ _ _ _ _ _ _)
      | (with_reducible exact ih3 _ _ _ _ _ _ _ _ _ _ _ _ _ _ _ _ _)
      | (with_reducible exact ih4 _ _ _ _ _ _ _ _ _ _ _ _ _ _ _ _ _)
      | (with_reducible exact usufructref02_Good.mono _ _)
      | (with_reducible exact LeO.refl _)
      | (with_reducible exact LeO.none _)
      | (with_reducible refine LeO.ite ?_ ?_)
      | (with_reducible refine LeO.bind ?_ (fun _ => ?_))
      | exact ih0 _ _ _ _
      | exact ih1 _ _ _ _
      | exact ih2 _ _ _ _ _ _ _ _ _ _ _ _ _ _ _ _ _
      | exact ih3 _ _ _ _ _ _ _ _ _ _ _ _ _ _ _ _ _
      | exact ih4 _ _ _ _ _ _ _ _ _ _ _ _ _ _ _ _ _
      | exact usufructref02_Good.mono _ _
      | exact LeO.none _
      | refine LeO.ite ?_ ?_
      | refine LeO.bind ?_ (fun _ => ?_)
    · intro y0 y1 y2 y3
      unfold usufructref13_Check.l0
      repeat' first
      | (with_reducible exact ih0 _ _ _ _)
      | (with_reducible exact ih1 _ _ _ _)
      | (with_reducible exact ih2 _ _ _ _ _ _ _ _ _ _ _ _ _ _ _ _ _)
      | (with_reducible exact ih3 _ _ _ _ _ _ _ _ _ _ _ _ _ _ _ _ _)
      | (with_reducible exact ih4 _ _ _ _ _ _ _ _ _ _ _ _ _ _ _ _ _)
      | (with_reducible exact usufructref02_Good.mono _ _)
      | (with_reducible exact LeO.refl _)
      | (with_reducible exact LeO.none _)
      | (with_reducible refine LeO.ite ?_ ?_)
      | (with_reducible refine LeO.bind ?_ (fun _ => ?_))
      | exact ih0 _ _ _ _
      | exact ih1 _ _ _ _
      | exact ih2 _ _ _ _ _ _ _ _ _ _ _ _ _ _ _ _ _
      | exact ih3 _ _ _ _ _ _ _ _ _ _ _ _ _ _ _ _ _
      | exact ih4 _ _ _ _ _ _ _ _ _ _ _ _ _ _ _ _ _
      | exact usufructref02_Good.mono _ _
      | exact LeO.none _
      | refine LeO.ite ?_ ?_
      | refine LeO.bind ?_ (fun _ => ?_)
    · intro y0 y1 y2 y3 y4 y5 y6 y7 y8 y9 y10 y11 y12 y13 y14 y15 y16
      unfold usufructref13_Check.j2
      repeat' first
      | (with_reducible exact ih0 _ _ _ _)
      | (with_reducible exact ih1 _ _ _ _)
      | (with_reducible exact ih2 _ _ _ _ _ _ _ _ _ _ _ _ _ _ _ _ _)
      | (with_reducible exact ih3 _ _ _ _ _ _ _ _ _ _ _ _ _ _ _ _ _)
      | (with_reducible exact ih4 _ _ _ _ _ _ _ _ _ _ _ _ _ _ _ _ _)
      | (with_reducible exact usufructref02_Good.mono _ _)
      | (with_reducible exact LeO.refl _)
      | (with_reducible exact LeO.none _)
      | (with_reducible refine LeO.ite ?_ ?_)
      | (with_reducible refine LeO.bind ?_ (fun _ => ?_))
      | exact ih0 _ _ _ _
      | exact ih1 _ _ _ _
      | exact ih2 _ _ _ _ _ _ _ _ _ _ _ _ _ _ _ _ _
      | exact ih3 _ _ _ _ _ _ _ _ _ _ _ _ _ _ _ _ _
      | exact ih4 _ _ _ _ _ _ _ _ _ _ _ _ _ _ _ _ _
      | exact usufructref02_Good.mono _ _
      | exact LeO.none _
      | refine LeO.ite ?_ ?_
      | refine LeO.bind ?_ (fun _ => ?_)
    · intro y0 y1 y2 y3 y4 y5 y6 y7 y8 y9 y10 y11 y12 y13 y14 y15 y16
      unfold usufructref13_Check.l1
      repeat' first
      | (with_reducible exact ih0 _ _ _ _)
      | (with_reducible exact ih1 _ _ _ _)
      | (with_reducible exact ih2 _ _ _ _ _ _ _ _ _ _ _ _ _ _ _ _ _)
      | (with_reducible exact ih3 _ _ _ _ _ _ _ _ _ _ _ _ _ _ _ _ _)
      | (with_reducible exact ih4 _ _ _ _ _ _ _ _ _ _ _ _ _ _ _ _ _)
      | (with_reducible exact usufructref02_Good.mono _ _)
      | (with_reducible exact LeO.refl _)
      | (with_reducible exact LeO.none _)
      | (with_reducible refine LeO.ite ?_ ?_)
      | (with_reducible refine LeO.bind ?_ (fun _ => ?_))
      | exact ih0 _ _ _ _
      | exact ih1 _ _ _ _
      | exact ih2 _ _ _ _ _ _ _ _ _ _ _ _ _ _ _ _ _
      | exact ih3 _ _ _ _ _ _ _ _ _ _ _ _ _ _ _ _ _
      | exact ih4 _ _ _ _ _ _ _ _ _ _ _ _ _ _ _ _ _
      | exact usufructref02_Good.mono _ _
      | exact LeO.none _
      | refine LeO.ite ?_ ?_
      | refine LeO.bind ?_ (fun _ => ?_)
    · intro y0 y1 y2 y3 y4 y5 y6 y7 y8 y9 y10 y11 y12 y13 y14 y15 y16
      unfold usufructref13_Check.j4
      repeat' first
      | (with_reducible exact ih0 _ _ _ _)
      | (with_reducible exact ih1 _ _ _ _)
      | (with_reducible exact ih2 _ _ _ _ _ _ _ _ _ _ _ _ _ _ _ _ _)
      | (with_reducible exact ih3 _ _ _ _ _ _ _ _ _ _ _ _ _ _ _ _ _)
      | (with_reducible exact ih4 _ _ _ _ _ _ _ _ _ _ _ _ _ _ _ _ _)
      | (with_reducible exact usufructref02_Good.mono _ _)
      | (with_reducible exact LeO.refl _)
      | (with_reducible exact LeO.none _)
      | (with_reducible refine LeO.ite ?_ ?_)
      | (with_reducible refine LeO.bind ?_ (fun _ => ?_))
      | exact ih0 _ _ _ _
      | exact ih1 _ _ _ _
      | exact ih2 _ _ _ _ _ _ _ _ _ _ _ _ _ _ _ _ _
      | exact ih3 _ _ _ _ _ _ _ _ _ _ _ _ _ _ _ _ _
      | exact ih4 _ _ _ _ _ _ _ _ _ _ _ _ _ _ _ _ _
      | exact usufructref02_Good.mono _ _
      | exact LeO.none _
      | refine LeO.ite ?_ ?_
      | refine LeO.bind ?_ (fun _ => ?_)
theorem usufructref13_Check.mono : ∀ a0 a1 a2 k, LeO (usufructref13_Check.f k a0 a1 a2) (usufructref13_Check.f (k + 1) a0 a1 a2) := by
  intro a0 a1 a2 k
  obtain ⟨ih0, ih1, ih2, ih3, ih4⟩ := usufructref13_Check.mono_l k
  unfold usufructref13_Check.f
  repeat' first
      | (with_reducible exact ih0 _ _ _ _)
      | (with_reducible exact ih1 _ _ _ _)
      | (with_reducible exact ih2 _ _ _ _ _ _ _ _ _ _ _ _ _ _ _ _ _)
      | (with_reducible exact ih3 _ _ _ _ _ _ _ _ _ _ _ _ _ _ _ _ _)
      | (with_reducible exact ih4 _ _ _ _ _ _ _ _ _ _ _ _ _ _ _ _ _)
      | (with_reducible exact usufructref02_Good.mono _ _)
      | (with_reducible exact LeO.refl _)
      | (with_reducible exact LeO.none _)
      | (with_reducible refine LeO.ite ?_ ?_)
      | (with_reducible refine LeO.bind ?_ (fun _ => ?_))
      | exact ih0 _ _ _ _
      | exact ih1 _ _ _ _
      | exact ih2 _ _ _ _ _ _ _ _ _ _ _ _ _ _ _ _ _
      | exact ih3 _ _ _ _ _ _ _ _ _ _ _ _ _ _ _ _ _
      | exact ih4 _ _ _ _ _ _ _ _ _ _ _ _ _ _ _ _ _
      | exact usufructref02_Good.mono _ _
      | exact LeO.none _
      | refine LeO.ite ?_ ?_
      | refine LeO.bind ?_ (fun _ => ?_)
namespace usufructref13_Check
theorem mt_ {α β : Type} {f : α → β} {l : List α} : l.toArray.map f = (l.map f).toArray := List.map_toArray
theorem mc_ {α β : Type} {f : α → β} {a : α} {l : List α} : (a :: l).map f = f a :: l.map f := rfl
theorem mn_ {α β : Type} {f : α → β} : ([] : List α).map f = [] := rfl
abbrev zn_ := @blk_drewN
abbrev zd_ := @blk_drew
abbrev za_ := @blk_alloc
abbrev zf_ := @blk_frozen
abbrev zc_ := @blk_cell
abbrev zs_ := @below_set
abbrev zr_ := @blk_far
abbrev zp_ := @blk_put
abbrev pd_ := @pw_below_drewN
abbrev p1_ := @below_drew1
abbrev pa_ := @below_alloc
abbrev ak_ := @Aside0.mk
abbrev bl_ := @World.block_lt_of_cell?
abbrev ps_ := @below_step
def b_ (n k : Nat) : Array Bool := ((List.range n).map fun i => k.testBit i).toArray
theorem sa_ {α : Type} {l : List α} {i : Nat} {a : α} : l.toArray.setIfInBounds i a = (l.set i a).toArray := List.setIfInBounds_toArray l i a
theorem sz_ {α : Type} {a b : α} {l : List α} : (a :: l).set 0 b = b :: l := rfl
theorem ss_ {α : Type} {a b : α} {l : List α} {n : Nat} : (a :: l).set (n + 1) b = a :: l.set n b := rfl
end usufructref13_Check
open usufructref13_Check in
set_option maxHeartbeats 8000000 in
set_option maxRecDepth 100000 in
theorem usufructref13_Check.calls (k : Nat) (a0_0 : ByteArray) (a0_1 : Int) (A0_2 : Option Addr) (c0_2 : Nat) (l0_2 : List (S49)) (r1 : Int) (r2 : Int) (w : World) (hr0_2 : Kd.C k49 w A0_2 l0_2.length l0_2) (hc0_2 : l0_2.length ≤ c0_2) (h : usufructref13_Check.f k a0_0 a0_1 l0_2 = some (r1, r2)) :
    Calls Try.prog 20 #[.agg #[.string a0_0, .int .i64 a0_1, .slice A0_2 l0_2.length c0_2]] w fun e w' => e = .returned (.tuple #[.int .i64 r1, .int .i64 r2]) ∧ Below w.heap.size w w' := by
  have hu28 := Try.underlying28
  have hu49 := Try.underlying49
  have hu47 := Try.underlying47
  have HR0_2 := ak_ hr0_2
  have HC0_2 := ak_ hc0_2
  clear hr0_2 hc0_2
  have HB := ak_ (Below.refl w.heap.size w)
  have H : ((usufructref02_Good.f k a0_0).bind fun t194 => (if t194 = true then (if a0_1 < 0 then (usufructref13_Check.j0 k true a0_0 a0_1 l0_2) else (usufructref13_Check.j0 k (decide (a0_1 > 1099511627776)) a0_0 a0_1 l0_2)) else (some ((-1), 10)))) = some (r1, r2) := h
  clear h
  replace H := Option.bind_eq_some_iff.mp H
  obtain ⟨t194, A20, H⟩ := H
  replace H : (if t194 = true then (if a0_1 < 0 then (usufructref13_Check.j0 k true a0_0 a0_1 l0_2) else (usufructref13_Check.j0 k (decide (a0_1 > 1099511627776)) a0_0 a0_1 l0_2)) else (some ((-1), 10))) = some (r1, r2) := H
  have A2 := ak_ A20
  clear A20
  by_cases c3 : t194 = true
  · subst c3
    have H1 : (if a0_1 < 0 then (usufructref13_Check.j0 k true a0_0 a0_1 l0_2) else (usufructref13_Check.j0 k (decide (a0_1 > 1099511627776)) a0_0 a0_1 l0_2)) = some (r1, r2) := by rw [if_pos rfl] at H; exact H
    clear H
    have H := H1
    clear H1
    have HC4 := ak_ H
    clear H
    go_enter Try.func20, Try.ntmps20
    go_upto_region 3 with (first | ((with_reducible refine gate_dst (N := 1) rfl ?_); refine box_event ?hg (N := 1) ?hd (cs := #[.string a0_0, .int .i64 a0_1, .slice A0_2 l0_2.length c0_2]) (t := 28) ?hr ?_; (case hd => rfl); (case hg => rfl); (case hr => first | (go_simp; done) | (go_simp; rfl)); intro gb193 hg w5 hbox hb; have n0_ := ak_ (ps_ (by repeat (first | (with_reducible first | exact HB.out | apply pa_ | apply pd_ | apply p1_) | exact HB.out)) hb); have n1_ := ak_ (hbox); have n2_ := ak_ ((by rw [hg]; exact (below_size (by repeat (first | (with_reducible first | exact HB.out | apply pa_ | apply pd_ | apply p1_) | exact HB.out))) : w.heap.size ≤ gb193)); have n3_ := ak_ ((by rw [hg]; exact (below_size (by repeat (first | (with_reducible first | exact HB.out | apply pa_ | apply pd_ | apply p1_) | exact HB.out))) : w.heap.size ≤ gb193)); clear HB; have HB := n0_; have BK193 := n1_; have GW193 := n2_; have GE193 := n3_; clear n0_ n1_ n2_ n3_; clear hb hbox hg; have hcz6_0 : w5.cell? ⟨gb193, 0, none⟩ = some (.string a0_0) := (zc_ BK193.out 0).trans rfl; have hcz6_1 : w5.cell? ⟨gb193, 1, none⟩ = some (.int .i64 a0_1) := (zc_ BK193.out 1).trans rfl; have hcz6_2 : w5.cell? ⟨gb193, 2, none⟩ = some (.slice A0_2 l0_2.length c0_2) := (zc_ BK193.out 2).trans rfl; have hfz6_0 := zf_ BK193.out 0; have hfz6_1 := zf_ BK193.out 1; have hfz6_2 := zf_ BK193.out 2) | (go_at_call 35; (with_reducible refine (usufructref02_Good.calls k a0_0 true _ A2.out).mono ?_); rintro e w' ⟨rfl, ⟨nd, rfl⟩⟩; (try first | exact ⟨rfl, _, World.drewN_drewN _ _ _⟩ | exact ⟨rfl, _, Eq.trans (World.drewN_drewN _ _ _) (congrArg (World.drewN _) (Nat.add_assoc _ _ _))⟩)))
    repeat (go_quiet (first | ((with_reducible refine gate_dst (N := 1) rfl ?_); refine box_event ?hg (N := 1) ?hd (cs := #[.string a0_0, .int .i64 a0_1, .slice A0_2 l0_2.length c0_2]) (t := 28) ?hr ?_; (case hd => rfl); (case hg => rfl); (case hr => first | (go_simp; done) | (go_simp; rfl)); intro gb193 hg w5 hbox hb; have n0_ := ak_ (ps_ (by repeat (first | (with_reducible first | exact HB.out | apply pa_ | apply pd_ | apply p1_) | exact HB.out)) hb); have n1_ := ak_ (hbox); have n2_ := ak_ ((by rw [hg]; exact (below_size (by repeat (first | (with_reducible first | exact HB.out | apply pa_ | apply pd_ | apply p1_) | exact HB.out))) : w.heap.size ≤ gb193)); have n3_ := ak_ ((by rw [hg]; exact (below_size (by repeat (first | (with_reducible first | exact HB.out | apply pa_ | apply pd_ | apply p1_) | exact HB.out))) : w.heap.size ≤ gb193)); clear HB; have HB := n0_; have BK193 := n1_; have GW193 := n2_; have GE193 := n3_; clear n0_ n1_ n2_ n3_; clear hb hbox hg; have hcz6_0 : w5.cell? ⟨gb193, 0, none⟩ = some (.string a0_0) := (zc_ BK193.out 0).trans rfl; have hcz6_1 : w5.cell? ⟨gb193, 1, none⟩ = some (.int .i64 a0_1) := (zc_ BK193.out 1).trans rfl; have hcz6_2 : w5.cell? ⟨gb193, 2, none⟩ = some (.slice A0_2 l0_2.length c0_2) := (zc_ BK193.out 2).trans rfl; have hfz6_0 := zf_ BK193.out 0; have hfz6_1 := zf_ BK193.out 1; have hfz6_2 := zf_ BK193.out 2) | (go_at_call 35; (with_reducible refine (usufructref02_Good.calls k a0_0 true _ A2.out).mono ?_); rintro e w' ⟨rfl, ⟨nd, rfl⟩⟩; (try first | exact ⟨rfl, _, World.drewN_drewN _ _ _⟩ | exact ⟨rfl, _, Eq.trans (World.drewN_drewN _ _ _) (congrArg (World.drewN _) (Nat.add_assoc _ _ _))⟩))); go_upto_region 3 with (first | ((with_reducible refine gate_dst (N := 1) rfl ?_); refine box_event ?hg (N := 1) ?hd (cs := #[.string a0_0, .int .i64 a0_1, .slice A0_2 l0_2.length c0_2]) (t := 28) ?hr ?_; (case hd => rfl); (case hg => rfl); (case hr => first | (go_simp; done) | (go_simp; rfl)); intro gb193 hg w5 hbox hb; have n0_ := ak_ (ps_ (by repeat (first | (with_reducible first | exact HB.out | apply pa_ | apply pd_ | apply p1_) | exact HB.out)) hb); have n1_ := ak_ (hbox); have n2_ := ak_ ((by rw [hg]; exact (below_size (by repeat (first | (with_reducible first | exact HB.out | apply pa_ | apply pd_ | apply p1_) | exact HB.out))) : w.heap.size ≤ gb193)); have n3_ := ak_ ((by rw [hg]; exact (below_size (by repeat (first | (with_reducible first | exact HB.out | apply pa_ | apply pd_ | apply p1_) | exact HB.out))) : w.heap.size ≤ gb193)); clear HB; have HB := n0_; have BK193 := n1_; have GW193 := n2_; have GE193 := n3_; clear n0_ n1_ n2_ n3_; clear hb hbox hg; have hcz6_0 : w5.cell? ⟨gb193, 0, none⟩ = some (.string a0_0) := (zc_ BK193.out 0).trans rfl; have hcz6_1 : w5.cell? ⟨gb193, 1, none⟩ = some (.int .i64 a0_1) := (zc_ BK193.out 1).trans rfl; have hcz6_2 : w5.cell? ⟨gb193, 2, none⟩ = some (.slice A0_2 l0_2.length c0_2) := (zc_ BK193.out 2).trans rfl; have hfz6_0 := zf_ BK193.out 0; have hfz6_1 := zf_ BK193.out 1; have hfz6_2 := zf_ BK193.out 2) | (go_at_call 35; (with_reducible refine (usufructref02_Good.calls k a0_0 true _ A2.out).mono ?_); rintro e w' ⟨rfl, ⟨nd, rfl⟩⟩; (try first | exact ⟨rfl, _, World.drewN_drewN _ _ _⟩ | exact ⟨rfl, _, Eq.trans (World.drewN_drewN _ _ _) (congrArg (World.drewN _) (Nat.add_assoc _ _ _))⟩))))
    (try simp only [Act.put, sa_, sz_, ss_])
    go_cut [18] (fun v18 wc => ∃ (kq : Nat) (x18_3 : Bool), v18 = .bool x18_3 ∧ Aside0 (usufructref13_Check.j0 kq x18_3 a0_0 a0_1 l0_2 = some (r1, r2)) ∧ Aside0 (kq ≤ k) ∧ Aside0 (wc.heap[gb193]? = some (.cells #[.string a0_0, .int .i64 a0_1, (.slice A0_2 l0_2.length c0_2)] 28 (0, 0))) ∧ Aside0 (Below w.heap.size w wc))
    case first =>
      have H := HC4.out
      clear HC4
      by_cases c7 : a0_1 < 0
      · rw [if_pos c7] at H
        have c7b0 : decide (a0_1 < 0) = true := decide_eq_true c7
        clear c7
        (first | rw [c7b0] | (simp only [i64_w, i32_w]; rw [c7b0]) | skip)
        have H' := ak_ H
        clear H
        have hcz8_0 : w5.cell? ⟨gb193, 0, none⟩ = some (.string a0_0) := (zc_ BK193.out 0).trans rfl
        have hcz8_1 : w5.cell? ⟨gb193, 1, none⟩ = some (.int .i64 a0_1) := (zc_ BK193.out 1).trans rfl
        have hcz8_2 : w5.cell? ⟨gb193, 2, none⟩ = some (.slice A0_2 l0_2.length c0_2) := (zc_ BK193.out 2).trans rfl
        have hfz8_0 := zf_ BK193.out 0
        have hfz8_1 := zf_ BK193.out 1
        have hfz8_2 := zf_ BK193.out 2
        go_wp2
        repeat (go_quiet (fail); try go_wp2)
        go_meet
        case rel => exact ⟨_, (true), (by first | rfl | (simp; done) | (simp [*]; done)), H', ⟨by first | omega | exact Nat.le_refl _⟩, ⟨by (with_reducible repeat (first | apply zn_ | apply zd_ | apply za_)); exact BK193.out⟩, ⟨by repeat (first | (with_reducible first | exact HB.out | apply pa_ | apply pd_ | apply p1_ | refine zs_ ?_ GE193.out) | exact HB.out)⟩⟩
      rw [if_neg c7] at H
      have c7b0 : decide (a0_1 < 0) = false := decide_eq_false c7
      clear c7
      (first | rw [c7b0] | (simp only [i64_w, i32_w]; rw [c7b0]) | skip)
      have H' := ak_ H
      clear H
      have hcz9_0 : w5.cell? ⟨gb193, 0, none⟩ = some (.string a0_0) := (zc_ BK193.out 0).trans rfl
      have hcz9_1 : w5.cell? ⟨gb193, 1, none⟩ = some (.int .i64 a0_1) := (zc_ BK193.out 1).trans rfl
      have hcz9_2 : w5.cell? ⟨gb193, 2, none⟩ = some (.slice A0_2 l0_2.length c0_2) := (zc_ BK193.out 2).trans rfl
      have hfz9_0 := zf_ BK193.out 0
      have hfz9_1 := zf_ BK193.out 1
      have hfz9_2 := zf_ BK193.out 2
      go_wp2
      repeat (go_quiet (fail); try go_wp2)
      go_meet
      case rel => exact ⟨_, (decide (a0_1 > 1099511627776)), (by first | rfl | (simp; done) | (simp [*]; done)), H', ⟨by first | omega | exact Nat.le_refl _⟩, ⟨by (with_reducible repeat (first | apply zn_ | apply zd_ | apply za_)); exact BK193.out⟩, ⟨by repeat (first | (with_reducible first | exact HB.out | apply pa_ | apply pd_ | apply p1_ | refine zs_ ?_ GE193.out) | exact HB.out)⟩⟩
    case rest =>
      clear HC4
      try clear c2
      try clear p2
      try clear c3
      try clear c7
      try clear c7b0
      try clear hcz6_0
      try clear hcz6_1
      try clear hcz6_2
      try clear hcz8_0
      try clear hcz8_1
      try clear hcz8_2
      try clear hcz9_0
      try clear hcz9_1
      try clear hcz9_2
      try clear hfz6_0
      try clear hfz6_1
      try clear hfz6_2
      try clear hfz8_0
      try clear hfz8_1
      try clear hfz8_2
      try clear hfz9_0
      try clear hfz9_1
      try clear hfz9_2
      obtain ⟨kq, x18_3, rfl, HA, HJ3, BK193, HB⟩ := hcut
      cases kq with
      | zero => exact absurd HA.out (by simp [usufructref13_Check.j0])
      | succ kj3 =>
        have H := HA.out
        clear HA
        simp only [usufructref13_Check.j0] at H
        by_cases c10 : x18_3 = true
        · subst c10
          have H1 : (some ((-1), 1)) = some (r1, r2) := by rw [if_pos rfl] at H; exact H
          clear H
          have H := H1
          clear H1
          simp only [Option.some.injEq, Prod.mk.injEq] at H
          obtain ⟨rfl, rfl⟩ := H
          go_wp2
          repeat (go_quiet (fail); try go_wp2)
          go_ret2
          exact ⟨by first | rfl | (simp [errW_none, errW_some] <;> rfl) | (simp [*, errW_none, errW_some] <;> rfl), by repeat (first | (with_reducible first | exact HB.out | apply pa_ | apply pd_ | apply p1_ | refine zs_ ?_ GE193.out) | exact HB.out)⟩
        replace c10 := Bool.eq_false_iff.mpr c10
        subst c10
        have H1 : (if (l0_2.length : Int) < 1 then (some ((-1), 2)) else (if (l0_2.length : Int) > 32 then (some ((-1), 4)) else (usufructref13_Check.l0 kj3 0 a0_0 a0_1 l0_2))) = some (r1, r2) := by rw [if_neg (show ¬ (false = true) by decide)] at H; exact H
        clear H
        have H := H1
        clear H1
        by_cases c11 : (l0_2.length : Int) < 1
        · rw [if_pos c11] at H
          have c11b0 : decide ((l0_2.length : Int) < 1) = true := decide_eq_true c11
          have c11b1 : decide (l0_2.length < 1) = true := decide_eq_true (by omega)
          clear c11
          simp only [Option.some.injEq, Prod.mk.injEq] at H
          obtain ⟨rfl, rfl⟩ := H
          have hcz12_0 : wc.cell? ⟨gb193, 0, none⟩ = some (.string a0_0) := (zc_ BK193.out 0).trans rfl
          have hcz12_1 : wc.cell? ⟨gb193, 1, none⟩ = some (.int .i64 a0_1) := (zc_ BK193.out 1).trans rfl
          have hcz12_2 : wc.cell? ⟨gb193, 2, none⟩ = some (.slice A0_2 l0_2.length c0_2) := (zc_ BK193.out 2).trans rfl
          have hfz12_0 := zf_ BK193.out 0
          have hfz12_1 := zf_ BK193.out 1
          have hfz12_2 := zf_ BK193.out 2
          go_wp2
          repeat (go_quiet (fail); try go_wp2)
          go_ret2
          exact ⟨by first | rfl | (simp [errW_none, errW_some] <;> rfl) | (simp [*, errW_none, errW_some] <;> rfl), by repeat (first | (with_reducible first | exact HB.out | apply pa_ | apply pd_ | apply p1_ | refine zs_ ?_ GE193.out) | exact HB.out)⟩
        rw [if_neg c11] at H
        have c11b0 : decide ((l0_2.length : Int) < 1) = false := decide_eq_false c11
        have c11b1 : decide (l0_2.length < 1) = false := decide_eq_false (by omega)
        clear c11
        by_cases c13 : (l0_2.length : Int) > 32
        · rw [if_pos c13] at H
          have c13b0 : decide (32 < (l0_2.length : Int)) = true := decide_eq_true c13
          have c13b1 : decide (32 < l0_2.length) = true := decide_eq_true (by omega)
          clear c13
          simp only [Option.some.injEq, Prod.mk.injEq] at H
          obtain ⟨rfl, rfl⟩ := H
          have hcz14_0 : wc.cell? ⟨gb193, 0, none⟩ = some (.string a0_0) := (zc_ BK193.out 0).trans rfl
          have hcz14_1 : wc.cell? ⟨gb193, 1, none⟩ = some (.int .i64 a0_1) := (zc_ BK193.out 1).trans rfl
          have hcz14_2 : wc.cell? ⟨gb193, 2, none⟩ = some (.slice A0_2 l0_2.length c0_2) := (zc_ BK193.out 2).trans rfl
          have hfz14_0 := zf_ BK193.out 0
          have hfz14_1 := zf_ BK193.out 1
          have hfz14_2 := zf_ BK193.out 2
          go_wp2
          repeat (go_quiet (fail); try go_wp2)
          go_ret2
          exact ⟨by first | rfl | (simp [errW_none, errW_some] <;> rfl) | (simp [*, errW_none, errW_some] <;> rfl), by repeat (first | (with_reducible first | exact HB.out | apply pa_ | apply pd_ | apply p1_ | refine zs_ ?_ GE193.out) | exact HB.out)⟩
        rw [if_neg c13] at H
        have c13b0 : decide (32 < (l0_2.length : Int)) = false := decide_eq_false c13
        have c13b1 : decide (32 < l0_2.length) = false := decide_eq_false (by omega)
        clear c13
        have H' := ak_ H
        clear H
        have hcz15_0 : wc.cell? ⟨gb193, 0, none⟩ = some (.string a0_0) := (zc_ BK193.out 0).trans rfl
        have hcz15_1 : wc.cell? ⟨gb193, 1, none⟩ = some (.int .i64 a0_1) := (zc_ BK193.out 1).trans rfl
        have hcz15_2 : wc.cell? ⟨gb193, 2, none⟩ = some (.slice A0_2 l0_2.length c0_2) := (zc_ BK193.out 2).trans rfl
        have hfz15_0 := zf_ BK193.out 0
        have hfz15_1 := zf_ BK193.out 1
        have hfz15_2 := zf_ BK193.out 2
        go_wp2
        repeat (go_quiet (fail); try go_wp2)
        go_loopg [4] kj3 (fun kq v4 w' => ∃ (x4_2 : Int), v4 = .int .i64 x4_2 ∧ Aside0 (usufructref13_Check.l0 kq x4_2 a0_0 a0_1 l0_2 = some (r1, r2)) ∧ Aside0 (kq ≤ kj3) ∧ Aside0 (w'.heap[gb193]? = some (.cells #[.string a0_0, .int .i64 a0_1, (.slice A0_2 l0_2.length c0_2)] 28 (0, 0))) ∧ Aside0 (Below w.heap.size w w'))
        case atStart => exact ⟨(0), (by first | rfl | (simp; done) | (simp [*]; done)), H', ⟨Nat.le_refl _⟩, ⟨by (with_reducible repeat (first | apply zn_ | apply zd_ | apply za_)); exact BK193.out⟩, ⟨by repeat (first | (with_reducible first | exact HB.out | apply pa_ | apply pd_ | apply p1_ | refine zs_ ?_ GE193.out) | exact HB.out)⟩⟩
        case round =>
          clear H'
          try clear c1
          try clear c2
          try clear p2
          try clear c3
          try clear c7
          try clear c7b0
          try clear c10
          try clear c11
          try clear c11b0
          try clear c11b1
          try clear c13
          try clear c13b0
          try clear c13b1
          try clear hcz12_0
          try clear hcz12_1
          try clear hcz12_2
          try clear hcz14_0
          try clear hcz14_1
          try clear hcz14_2
          try clear hcz15_0
          try clear hcz15_1
          try clear hcz15_2
          try clear hcz6_0
          try clear hcz6_1
          try clear hcz6_2
          try clear hcz8_0
          try clear hcz8_1
          try clear hcz8_2
          try clear hcz9_0
          try clear hcz9_1
          try clear hcz9_2
          try clear hfz12_0
          try clear hfz12_1
          try clear hfz12_2
          try clear hfz14_0
          try clear hfz14_1
          try clear hfz14_2
          try clear hfz15_0
          try clear hfz15_1
          try clear hfz15_2
          try clear hfz6_0
          try clear hfz6_1
          try clear hfz6_2
          try clear hfz8_0
          try clear hfz8_1
          try clear hfz8_2
          try clear hfz9_0
          try clear hfz9_1
          try clear hfz9_2
          try clear p2
          obtain ⟨x4_2, rfl, HA, HK2, BK193, HB⟩ := hrel
          cases gk with
          | zero => exact absurd HA.out (by simp [usufructref13_Check.l0])
          | succ k2 =>
            have H := HA.out
            clear HA
            simp only [usufructref13_Check.l0] at H
            by_cases c16 : x4_2 < (l0_2.length : Int)
            · rw [if_pos c16] at H
              have c16b0 : decide (x4_2 < (l0_2.length : Int)) = true := decide_eq_true c16
              clear c16
              by_cases c17 : 0 ≤ x4_2
              · rw [if_pos c17] at H
                have c17b0 : decide (0 ≤ x4_2) = true := decide_eq_true c17
                clear c17
                have HC18 := ak_ H
                clear H
                have hcz19_0 : wr.cell? ⟨gb193, 0, none⟩ = some (.string a0_0) := (zc_ BK193.out 0).trans rfl
                have hcz19_1 : wr.cell? ⟨gb193, 1, none⟩ = some (.int .i64 a0_1) := (zc_ BK193.out 1).trans rfl
                have hcz19_2 : wr.cell? ⟨gb193, 2, none⟩ = some (.slice A0_2 l0_2.length c0_2) := (zc_ BK193.out 2).trans rfl
                have hfz19_0 := zf_ BK193.out 0
                have hfz19_1 := zf_ BK193.out 1
                have hfz19_2 := zf_ BK193.out 2
                have p195 : 0 ≤ (x4_2 : Int) := of_decide_eq_true (by assumption)
                have q195 : x4_2 < (l0_2.length : Int) := of_decide_eq_true (by assumption)
                obtain ⟨ad195, e195, hx195_0, hx195_1, hx195_2, hx195_3, hx195_4, hx195_5, hx195_6, hx195_7, hx195_8, hx195_9, hx195_10, hx195_11⟩ := at_T49 HR0_2.out x4_2 p195 q195
                cases e195
                replace hx195_0 := (HB.out.cell (bl_ w _ hx195_0)).trans hx195_0
                replace hx195_1 := (HB.out.cell (bl_ w _ hx195_1)).trans hx195_1
                replace hx195_2 := (HB.out.cell (bl_ w _ hx195_2)).trans hx195_2
                replace hx195_3 := (HB.out.cell (bl_ w _ hx195_3)).trans hx195_3
                replace hx195_4 := (HB.out.cell (bl_ w _ hx195_4)).trans hx195_4
                replace hx195_5 := (HB.out.cell (bl_ w _ hx195_5)).trans hx195_5
                replace hx195_6 := (HB.out.cell (bl_ w _ hx195_6)).trans hx195_6
                replace hx195_7 := (HB.out.cell (bl_ w _ hx195_7)).trans hx195_7
                replace hx195_8 := (HB.out.cell (bl_ w _ hx195_8)).trans hx195_8
                replace hx195_9 := (HB.out.cell (bl_ w _ hx195_9)).trans hx195_9
                replace hx195_10 := (HB.out.cell (bl_ w _ hx195_10)).trans hx195_10
                replace hx195_11 := (HB.out.cell (bl_ w _ hx195_11)).trans hx195_11
                replace p195 := eq_true p195
                replace q195 := eq_true q195
                go_upto_region 13 with (first | ((with_reducible refine gate_dst (N := 5) rfl ?_); refine box_event ?hg (N := 5) ?hd (cs := #[.string ⟨#[]⟩, .string ⟨#[]⟩, .int .i64 0, .int .i64 0, .int .i64 0, .int .i64 0, .int .i64 0, .int .i64 0, .int .i64 0, .int .i64 0, .int .i64 0, .int .i64 0]) (t := 49) ?hr ?_; (case hd => rfl); (case hg => rfl); (case hr => first | (go_simp; done) | (go_simp; rfl)); intro gb196 hg w20 hbox hb; have n0_ := ak_ (blk_below (g := gb193) (o := .cells #[.string a0_0, .int .i64 a0_1, .slice (some ad195) l0_2.length c0_2] 28 (0, 0)) (by (with_reducible repeat (first | apply zn_ | apply zd_ | apply za_)); exact BK193.out) hb); have n1_ := ak_ (ps_ (by repeat (first | (with_reducible first | exact HB.out | apply pa_ | apply pd_ | apply p1_ | refine zs_ ?_ GE193.out) | exact HB.out)) hb); have n2_ := ak_ (hbox); have n3_ := ak_ ((by rw [hg]; exact (below_size (by repeat (first | (with_reducible first | exact HB.out | apply pa_ | apply pd_ | apply p1_ | refine zs_ ?_ GE193.out) | exact HB.out))) : w.heap.size ≤ gb196)); have n4_ := ak_ ((by rw [hg]; exact (below_size (by repeat (first | (with_reducible first | exact HB.out | apply pa_ | apply pd_ | apply p1_ | refine zs_ ?_ GE193.out) | exact HB.out))) : w.heap.size ≤ gb196)); have n5_ := ak_ ((by rw [hg]; exact Nat.ne_of_lt (blk_lt (g := gb193) (o := .cells #[.string a0_0, .int .i64 a0_1, .slice (some ad195) l0_2.length c0_2] 28 (0, 0)) (by (with_reducible repeat (first | apply zn_ | apply zd_ | apply za_)); exact BK193.out)) : gb193 ≠ gb196)); have n6_ := ak_ ((by rw [hg]; exact Nat.ne_of_gt (blk_lt (g := gb193) (o := .cells #[.string a0_0, .int .i64 a0_1, .slice (some ad195) l0_2.length c0_2] 28 (0, 0)) (by (with_reducible repeat (first | apply zn_ | apply zd_ | apply za_)); exact BK193.out)) : gb196 ≠ gb193)); clear BK193; clear HB; have BK193 := n0_; have HB := n1_; have BK196 := n2_; have GW196 := n3_; have GE196 := n4_; have NB193_196 := n5_; have NB196_193 := n6_; clear n0_ n1_ n2_ n3_ n4_ n5_ n6_; clear hb hbox hg; have hnb21 := NB196_193.out; have hnc21 := NB193_196.out; have hcz22_0 : w20.cell? ⟨gb196, 0, none⟩ = some (.string ⟨#[]⟩) := (zc_ BK196.out 0).trans rfl; have hcz22_1 : w20.cell? ⟨gb196, 1, none⟩ = some (.string ⟨#[]⟩) := (zc_ BK196.out 1).trans rfl; have hcz22_2 : w20.cell? ⟨gb196, 2, none⟩ = some (.int .i64 0) := (zc_ BK196.out 2).trans rfl; have hcz22_3 : w20.cell? ⟨gb196, 3, none⟩ = some (.int .i64 0) := (zc_ BK196.out 3).trans rfl; have hcz22_4 : w20.cell? ⟨gb196, 4, none⟩ = some (.int .i64 0) := (zc_ BK196.out 4).trans rfl; have hcz22_5 : w20.cell? ⟨gb196, 5, none⟩ = some (.int .i64 0) := (zc_ BK196.out 5).trans rfl; have hcz22_6 : w20.cell? ⟨gb196, 6, none⟩ = some (.int .i64 0) := (zc_ BK196.out 6).trans rfl; have hcz22_7 : w20.cell? ⟨gb196, 7, none⟩ = some (.int .i64 0) := (zc_ BK196.out 7).trans rfl; have hcz22_8 : w20.cell? ⟨gb196, 8, none⟩ = some (.int .i64 0) := (zc_ BK196.out 8).trans rfl; have hcz22_9 : w20.cell? ⟨gb196, 9, none⟩ = some (.int .i64 0) := (zc_ BK196.out 9).trans rfl; have hcz22_10 : w20.cell? ⟨gb196, 10, none⟩ = some (.int .i64 0) := (zc_ BK196.out 10).trans rfl; have hcz22_11 : w20.cell? ⟨gb196, 11, none⟩ = some (.int .i64 0) := (zc_ BK196.out 11).trans rfl; have hfz22_0 := zf_ BK196.out 0; have hfz22_1 := zf_ BK196.out 1; have hfz22_2 := zf_ BK196.out 2; have hfz22_3 := zf_ BK196.out 3; have hfz22_4 := zf_ BK196.out 4; have hfz22_5 := zf_ BK196.out 5; have hfz22_6 := zf_ BK196.out 6; have hfz22_7 := zf_ BK196.out 7; have hfz22_8 := zf_ BK196.out 8; have hfz22_9 := zf_ BK196.out 9; have hfz22_10 := zf_ BK196.out 10; have hfz22_11 := zf_ BK196.out 11))
                repeat (go_quiet (first | ((with_reducible refine gate_dst (N := 5) rfl ?_); refine box_event ?hg (N := 5) ?hd (cs := #[.string ⟨#[]⟩, .string ⟨#[]⟩, .int .i64 0, .int .i64 0, .int .i64 0, .int .i64 0, .int .i64 0, .int .i64 0, .int .i64 0, .int .i64 0, .int .i64 0, .int .i64 0]) (t := 49) ?hr ?_; (case hd => rfl); (case hg => rfl); (case hr => first | (go_simp; done) | (go_simp; rfl)); intro gb196 hg w20 hbox hb; have n0_ := ak_ (blk_below (g := gb193) (o := .cells #[.string a0_0, .int .i64 a0_1, .slice (some ad195) l0_2.length c0_2] 28 (0, 0)) (by (with_reducible repeat (first | apply zn_ | apply zd_ | apply za_)); exact BK193.out) hb); have n1_ := ak_ (ps_ (by repeat (first | (with_reducible first | exact HB.out | apply pa_ | apply pd_ | apply p1_ | refine zs_ ?_ GE193.out) | exact HB.out)) hb); have n2_ := ak_ (hbox); have n3_ := ak_ ((by rw [hg]; exact (below_size (by repeat (first | (with_reducible first | exact HB.out | apply pa_ | apply pd_ | apply p1_ | refine zs_ ?_ GE193.out) | exact HB.out))) : w.heap.size ≤ gb196)); have n4_ := ak_ ((by rw [hg]; exact (below_size (by repeat (first | (with_reducible first | exact HB.out | apply pa_ | apply pd_ | apply p1_ | refine zs_ ?_ GE193.out) | exact HB.out))) : w.heap.size ≤ gb196)); have n5_ := ak_ ((by rw [hg]; exact Nat.ne_of_lt (blk_lt (g := gb193) (o := .cells #[.string a0_0, .int .i64 a0_1, .slice (some ad195) l0_2.length c0_2] 28 (0, 0)) (by (with_reducible repeat (first | apply zn_ | apply zd_ | apply za_)); exact BK193.out)) : gb193 ≠ gb196)); have n6_ := ak_ ((by rw [hg]; exact Nat.ne_of_gt (blk_lt (g := gb193) (o := .cells #[.string a0_0, .int .i64 a0_1, .slice (some ad195) l0_2.length c0_2] 28 (0, 0)) (by (with_reducible repeat (first | apply zn_ | apply zd_ | apply za_)); exact BK193.out)) : gb196 ≠ gb193)); clear BK193; clear HB; have BK193 := n0_; have HB := n1_; have BK196 := n2_; have GW196 := n3_; have GE196 := n4_; have NB193_196 := n5_; have NB196_193 := n6_; clear n0_ n1_ n2_ n3_ n4_ n5_ n6_; clear hb hbox hg; have hnb21 := NB196_193.out; have hnc21 := NB193_196.out; have hcz22_0 : w20.cell? ⟨gb196, 0, none⟩ = some (.string ⟨#[]⟩) := (zc_ BK196.out 0).trans rfl; have hcz22_1 : w20.cell? ⟨gb196, 1, none⟩ = some (.string ⟨#[]⟩) := (zc_ BK196.out 1).trans rfl; have hcz22_2 : w20.cell? ⟨gb196, 2, none⟩ = some (.int .i64 0) := (zc_ BK196.out 2).trans rfl; have hcz22_3 : w20.cell? ⟨gb196, 3, none⟩ = some (.int .i64 0) := (zc_ BK196.out 3).trans rfl; have hcz22_4 : w20.cell? ⟨gb196, 4, none⟩ = some (.int .i64 0) := (zc_ BK196.out 4).trans rfl; have hcz22_5 : w20.cell? ⟨gb196, 5, none⟩ = some (.int .i64 0) := (zc_ BK196.out 5).trans rfl; have hcz22_6 : w20.cell? ⟨gb196, 6, none⟩ = some (.int .i64 0) := (zc_ BK196.out 6).trans rfl; have hcz22_7 : w20.cell? ⟨gb196, 7, none⟩ = some (.int .i64 0) := (zc_ BK196.out 7).trans rfl; have hcz22_8 : w20.cell? ⟨gb196, 8, none⟩ = some (.int .i64 0) := (zc_ BK196.out 8).trans rfl; have hcz22_9 : w20.cell? ⟨gb196, 9, none⟩ = some (.int .i64 0) := (zc_ BK196.out 9).trans rfl; have hcz22_10 : w20.cell? ⟨gb196, 10, none⟩ = some (.int .i64 0) := (zc_ BK196.out 10).trans rfl; have hcz22_11 : w20.cell? ⟨gb196, 11, none⟩ = some (.int .i64 0) := (zc_ BK196.out 11).trans rfl; have hfz22_0 := zf_ BK196.out 0; have hfz22_1 := zf_ BK196.out 1; have hfz22_2 := zf_ BK196.out 2; have hfz22_3 := zf_ BK196.out 3; have hfz22_4 := zf_ BK196.out 4; have hfz22_5 := zf_ BK196.out 5; have hfz22_6 := zf_ BK196.out 6; have hfz22_7 := zf_ BK196.out 7; have hfz22_8 := zf_ BK196.out 8; have hfz22_9 := zf_ BK196.out 9; have hfz22_10 := zf_ BK196.out 10; have hfz22_11 := zf_ BK196.out 11)); go_upto_region 13 with (first | ((with_reducible refine gate_dst (N := 5) rfl ?_); refine box_event ?hg (N := 5) ?hd (cs := #[.string ⟨#[]⟩, .string ⟨#[]⟩, .int .i64 0, .int .i64 0, .int .i64 0, .int .i64 0, .int .i64 0, .int .i64 0, .int .i64 0, .int .i64 0, .int .i64 0, .int .i64 0]) (t := 49) ?hr ?_; (case hd => rfl); (case hg => rfl); (case hr => first | (go_simp; done) | (go_simp; rfl)); intro gb196 hg w20 hbox hb; have n0_ := ak_ (blk_below (g := gb193) (o := .cells #[.string a0_0, .int .i64 a0_1, .slice (some ad195) l0_2.length c0_2] 28 (0, 0)) (by (with_reducible repeat (first | apply zn_ | apply zd_ | apply za_)); exact BK193.out) hb); have n1_ := ak_ (ps_ (by repeat (first | (with_reducible first | exact HB.out | apply pa_ | apply pd_ | apply p1_ | refine zs_ ?_ GE193.out) | exact HB.out)) hb); have n2_ := ak_ (hbox); have n3_ := ak_ ((by rw [hg]; exact (below_size (by repeat (first | (with_reducible first | exact HB.out | apply pa_ | apply pd_ | apply p1_ | refine zs_ ?_ GE193.out) | exact HB.out))) : w.heap.size ≤ gb196)); have n4_ := ak_ ((by rw [hg]; exact (below_size (by repeat (first | (with_reducible first | exact HB.out | apply pa_ | apply pd_ | apply p1_ | refine zs_ ?_ GE193.out) | exact HB.out))) : w.heap.size ≤ gb196)); have n5_ := ak_ ((by rw [hg]; exact Nat.ne_of_lt (blk_lt (g := gb193) (o := .cells #[.string a0_0, .int .i64 a0_1, .slice (some ad195) l0_2.length c0_2] 28 (0, 0)) (by (with_reducible repeat (first | apply zn_ | apply zd_ | apply za_)); exact BK193.out)) : gb193 ≠ gb196)); have n6_ := ak_ ((by rw [hg]; exact Nat.ne_of_gt (blk_lt (g := gb193) (o := .cells #[.string a0_0, .int .i64 a0_1, .slice (some ad195) l0_2.length c0_2] 28 (0, 0)) (by (with_reducible repeat (first | apply zn_ | apply zd_ | apply za_)); exact BK193.out)) : gb196 ≠ gb193)); clear BK193; clear HB; have BK193 := n0_; have HB := n1_; have BK196 := n2_; have GW196 := n3_; have GE196 := n4_; have NB193_196 := n5_; have NB196_193 := n6_; clear n0_ n1_ n2_ n3_ n4_ n5_ n6_; clear hb hbox hg; have hnb21 := NB196_193.out; have hnc21 := NB193_196.out; have hcz22_0 : w20.cell? ⟨gb196, 0, none⟩ = some (.string ⟨#[]⟩) := (zc_ BK196.out 0).trans rfl; have hcz22_1 : w20.cell? ⟨gb196, 1, none⟩ = some (.string ⟨#[]⟩) := (zc_ BK196.out 1).trans rfl; have hcz22_2 : w20.cell? ⟨gb196, 2, none⟩ = some (.int .i64 0) := (zc_ BK196.out 2).trans rfl; have hcz22_3 : w20.cell? ⟨gb196, 3, none⟩ = some (.int .i64 0) := (zc_ BK196.out 3).trans rfl; have hcz22_4 : w20.cell? ⟨gb196, 4, none⟩ = some (.int .i64 0) := (zc_ BK196.out 4).trans rfl; have hcz22_5 : w20.cell? ⟨gb196, 5, none⟩ = some (.int .i64 0) := (zc_ BK196.out 5).trans rfl; have hcz22_6 : w20.cell? ⟨gb196, 6, none⟩ = some (.int .i64 0) := (zc_ BK196.out 6).trans rfl; have hcz22_7 : w20.cell? ⟨gb196, 7, none⟩ = some (.int .i64 0) := (zc_ BK196.out 7).trans rfl; have hcz22_8 : w20.cell? ⟨gb196, 8, none⟩ = some (.int .i64 0) := (zc_ BK196.out 8).trans rfl; have hcz22_9 : w20.cell? ⟨gb196, 9, none⟩ = some (.int .i64 0) := (zc_ BK196.out 9).trans rfl; have hcz22_10 : w20.cell? ⟨gb196, 10, none⟩ = some (.int .i64 0) := (zc_ BK196.out 10).trans rfl; have hcz22_11 : w20.cell? ⟨gb196, 11, none⟩ = some (.int .i64 0) := (zc_ BK196.out 11).trans rfl; have hfz22_0 := zf_ BK196.out 0; have hfz22_1 := zf_ BK196.out 1; have hfz22_2 := zf_ BK196.out 2; have hfz22_3 := zf_ BK196.out 3; have hfz22_4 := zf_ BK196.out 4; have hfz22_5 := zf_ BK196.out 5; have hfz22_6 := zf_ BK196.out 6; have hfz22_7 := zf_ BK196.out 7; have hfz22_8 := zf_ BK196.out 8; have hfz22_9 := zf_ BK196.out 9; have hfz22_10 := zf_ BK196.out 10; have hfz22_11 := zf_ BK196.out 11)))
                (try simp only [Act.put, sa_, sz_, ss_])
                go_cut [48] (fun v48 wc => ∃ (kq : Nat) (x48_17 : Bool), v48 = .bool x48_17 ∧ Aside0 (usufructref13_Check.j2 kq x4_2 x48_17 a0_0 a0_1 l0_2 ((rd_T49 l0_2 x4_2).f0) ((rd_T49 l0_2 x4_2).f1) ((rd_T49 l0_2 x4_2).f2) ((rd_T49 l0_2 x4_2).f3.f0) ((rd_T49 l0_2 x4_2).f3.f1) ((rd_T49 l0_2 x4_2).f3.f2) ((rd_T49 l0_2 x4_2).f3.f3) ((rd_T49 l0_2 x4_2).f4.f0) ((rd_T49 l0_2 x4_2).f4.f1) ((rd_T49 l0_2 x4_2).f4.f2) ((rd_T49 l0_2 x4_2).f4.f3) ((rd_T49 l0_2 x4_2).f5) = some (r1, r2)) ∧ Aside0 (kq ≤ k2) ∧ Aside0 (wc.heap[gb193]? = some (.cells #[.string a0_0, .int .i64 a0_1, (.slice (some ad195) l0_2.length c0_2)] 28 (0, 0))) ∧ Aside0 (wc.heap[gb196]? = some (.cells #[.string ((rd_T49 l0_2 x4_2).f0), .string ((rd_T49 l0_2 x4_2).f1), .int .i64 ((rd_T49 l0_2 x4_2).f2), .int .i64 ((rd_T49 l0_2 x4_2).f3.f0), .int .i64 ((rd_T49 l0_2 x4_2).f3.f1), .int .i64 ((rd_T49 l0_2 x4_2).f3.f2), .int .i64 ((rd_T49 l0_2 x4_2).f3.f3), .int .i64 ((rd_T49 l0_2 x4_2).f4.f0), .int .i64 ((rd_T49 l0_2 x4_2).f4.f1), .int .i64 ((rd_T49 l0_2 x4_2).f4.f2), .int .i64 ((rd_T49 l0_2 x4_2).f4.f3), .int .i64 ((rd_T49 l0_2 x4_2).f5)] 49 (0, 0))) ∧ Aside0 (Below w.heap.size w wc))
                case first =>
                  have H := HC18.out
                  clear HC18
                  replace H := Option.bind_eq_some_iff.mp H
                  obtain ⟨t197, A230, H⟩ := H
                  replace H : (if t197 = true then ((usufructref02_Good.f k2 ((rd_T49 l0_2 x4_2).f1)).bind fun t198 => (usufructref13_Check.j2 k2 x4_2 (!t198) a0_0 a0_1 l0_2 ((rd_T49 l0_2 x4_2).f0) ((rd_T49 l0_2 x4_2).f1) ((rd_T49 l0_2 x4_2).f2) ((rd_T49 l0_2 x4_2).f3.f0) ((rd_T49 l0_2 x4_2).f3.f1) ((rd_T49 l0_2 x4_2).f3.f2) ((rd_T49 l0_2 x4_2).f3.f3) ((rd_T49 l0_2 x4_2).f4.f0) ((rd_T49 l0_2 x4_2).f4.f1) ((rd_T49 l0_2 x4_2).f4.f2) ((rd_T49 l0_2 x4_2).f4.f3) ((rd_T49 l0_2 x4_2).f5))) else (usufructref13_Check.j2 k2 x4_2 true a0_0 a0_1 l0_2 ((rd_T49 l0_2 x4_2).f0) ((rd_T49 l0_2 x4_2).f1) ((rd_T49 l0_2 x4_2).f2) ((rd_T49 l0_2 x4_2).f3.f0) ((rd_T49 l0_2 x4_2).f3.f1) ((rd_T49 l0_2 x4_2).f3.f2) ((rd_T49 l0_2 x4_2).f3.f3) ((rd_T49 l0_2 x4_2).f4.f0) ((rd_T49 l0_2 x4_2).f4.f1) ((rd_T49 l0_2 x4_2).f4.f2) ((rd_T49 l0_2 x4_2).f4.f3) ((rd_T49 l0_2 x4_2).f5))) = some (r1, r2) := H
                  have A23 := ak_ A230
                  clear A230
                  by_cases c24 : t197 = true
                  · subst c24
                    have H1 : ((usufructref02_Good.f k2 ((rd_T49 l0_2 x4_2).f1)).bind fun t198 => (usufructref13_Check.j2 k2 x4_2 (!t198) a0_0 a0_1 l0_2 ((rd_T49 l0_2 x4_2).f0) ((rd_T49 l0_2 x4_2).f1) ((rd_T49 l0_2 x4_2).f2) ((rd_T49 l0_2 x4_2).f3.f0) ((rd_T49 l0_2 x4_2).f3.f1) ((rd_T49 l0_2 x4_2).f3.f2) ((rd_T49 l0_2 x4_2).f3.f3) ((rd_T49 l0_2 x4_2).f4.f0) ((rd_T49 l0_2 x4_2).f4.f1) ((rd_T49 l0_2 x4_2).f4.f2) ((rd_T49 l0_2 x4_2).f4.f3) ((rd_T49 l0_2 x4_2).f5))) = some (r1, r2) := by rw [if_pos rfl] at H; exact H
                    clear H
                    have H := H1
                    clear H1
                    replace H := Option.bind_eq_some_iff.mp H
                    obtain ⟨t198, A250, H⟩ := H
                    replace H : (usufructref13_Check.j2 k2 x4_2 (!t198) a0_0 a0_1 l0_2 ((rd_T49 l0_2 x4_2).f0) ((rd_T49 l0_2 x4_2).f1) ((rd_T49 l0_2 x4_2).f2) ((rd_T49 l0_2 x4_2).f3.f0) ((rd_T49 l0_2 x4_2).f3.f1) ((rd_T49 l0_2 x4_2).f3.f2) ((rd_T49 l0_2 x4_2).f3.f3) ((rd_T49 l0_2 x4_2).f4.f0) ((rd_T49 l0_2 x4_2).f4.f1) ((rd_T49 l0_2 x4_2).f4.f2) ((rd_T49 l0_2 x4_2).f4.f3) ((rd_T49 l0_2 x4_2).f5)) = some (r1, r2) := H
                    have A25 := ak_ A250
                    clear A250
                    have H' := ak_ H
                    clear H
                    have hnb26 := NB196_193.out
                    have hnc26 := NB193_196.out
                    have hcz27_0 : w20.cell? ⟨gb196, 0, none⟩ = some (.string ⟨#[]⟩) := (zc_ BK196.out 0).trans rfl
                    have hcz27_1 : w20.cell? ⟨gb196, 1, none⟩ = some (.string ⟨#[]⟩) := (zc_ BK196.out 1).trans rfl
                    have hcz27_2 : w20.cell? ⟨gb196, 2, none⟩ = some (.int .i64 0) := (zc_ BK196.out 2).trans rfl
                    have hcz27_3 : w20.cell? ⟨gb196, 3, none⟩ = some (.int .i64 0) := (zc_ BK196.out 3).trans rfl
                    have hcz27_4 : w20.cell? ⟨gb196, 4, none⟩ = some (.int .i64 0) := (zc_ BK196.out 4).trans rfl
                    have hcz27_5 : w20.cell? ⟨gb196, 5, none⟩ = some (.int .i64 0) := (zc_ BK196.out 5).trans rfl
                    have hcz27_6 : w20.cell? ⟨gb196, 6, none⟩ = some (.int .i64 0) := (zc_ BK196.out 6).trans rfl
                    have hcz27_7 : w20.cell? ⟨gb196, 7, none⟩ = some (.int .i64 0) := (zc_ BK196.out 7).trans rfl
                    have hcz27_8 : w20.cell? ⟨gb196, 8, none⟩ = some (.int .i64 0) := (zc_ BK196.out 8).trans rfl
                    have hcz27_9 : w20.cell? ⟨gb196, 9, none⟩ = some (.int .i64 0) := (zc_ BK196.out 9).trans rfl
                    have hcz27_10 : w20.cell? ⟨gb196, 10, none⟩ = some (.int .i64 0) := (zc_ BK196.out 10).trans rfl
                    have hcz27_11 : w20.cell? ⟨gb196, 11, none⟩ = some (.int .i64 0) := (zc_ BK196.out 11).trans rfl
                    have hfz27_0 := zf_ BK196.out 0
                    have hfz27_1 := zf_ BK196.out 1
                    have hfz27_2 := zf_ BK196.out 2
                    have hfz27_3 := zf_ BK196.out 3
                    have hfz27_4 := zf_ BK196.out 4
                    have hfz27_5 := zf_ BK196.out 5
                    have hfz27_6 := zf_ BK196.out 6
                    have hfz27_7 := zf_ BK196.out 7
                    have hfz27_8 := zf_ BK196.out 8
                    have hfz27_9 := zf_ BK196.out 9
                    have hfz27_10 := zf_ BK196.out 10
                    have hfz27_11 := zf_ BK196.out 11
                    go_wp2_with (first | (go_at_call 35; (with_reducible refine (usufructref02_Good.calls k2 ((rd_T49 l0_2 x4_2).f0) true _ A23.out).mono ?_); rintro e w' ⟨rfl, ⟨nd, rfl⟩⟩; (try first | exact ⟨rfl, _, World.drewN_drewN _ _ _⟩ | exact ⟨rfl, _, Eq.trans (World.drewN_drewN _ _ _) (congrArg (World.drewN _) (Nat.add_assoc _ _ _))⟩)) | (go_at_call 35; (with_reducible refine (usufructref02_Good.calls k2 ((rd_T49 l0_2 x4_2).f1) t198 _ A25.out).mono ?_); rintro e w' ⟨rfl, ⟨nd, rfl⟩⟩; (try first | exact ⟨rfl, _, World.drewN_drewN _ _ _⟩ | exact ⟨rfl, _, Eq.trans (World.drewN_drewN _ _ _) (congrArg (World.drewN _) (Nat.add_assoc _ _ _))⟩)))
                    repeat (go_quiet (first | (go_at_call 35; (with_reducible refine (usufructref02_Good.calls k2 ((rd_T49 l0_2 x4_2).f0) true _ A23.out).mono ?_); rintro e w' ⟨rfl, ⟨nd, rfl⟩⟩; (try first | exact ⟨rfl, _, World.drewN_drewN _ _ _⟩ | exact ⟨rfl, _, Eq.trans (World.drewN_drewN _ _ _) (congrArg (World.drewN _) (Nat.add_assoc _ _ _))⟩)) | (go_at_call 35; (with_reducible refine (usufructref02_Good.calls k2 ((rd_T49 l0_2 x4_2).f1) t198 _ A25.out).mono ?_); rintro e w' ⟨rfl, ⟨nd, rfl⟩⟩; (try first | exact ⟨rfl, _, World.drewN_drewN _ _ _⟩ | exact ⟨rfl, _, Eq.trans (World.drewN_drewN _ _ _) (congrArg (World.drewN _) (Nat.add_assoc _ _ _))⟩))); try go_wp2_with (first | (go_at_call 35; (with_reducible refine (usufructref02_Good.calls k2 ((rd_T49 l0_2 x4_2).f0) true _ A23.out).mono ?_); rintro e w' ⟨rfl, ⟨nd, rfl⟩⟩; (try first | exact ⟨rfl, _, World.drewN_drewN _ _ _⟩ | exact ⟨rfl, _, Eq.trans (World.drewN_drewN _ _ _) (congrArg (World.drewN _) (Nat.add_assoc _ _ _))⟩)) | (go_at_call 35; (with_reducible refine (usufructref02_Good.calls k2 ((rd_T49 l0_2 x4_2).f1) t198 _ A25.out).mono ?_); rintro e w' ⟨rfl, ⟨nd, rfl⟩⟩; (try first | exact ⟨rfl, _, World.drewN_drewN _ _ _⟩ | exact ⟨rfl, _, Eq.trans (World.drewN_drewN _ _ _) (congrArg (World.drewN _) (Nat.add_assoc _ _ _))⟩))))
                    go_meet
                    case rel => exact ⟨_, (!t198), (by first | rfl | (simp; done) | (simp [*]; done)), H', ⟨by have := HJ3.out; have := HK2.out; first | omega | exact Nat.le_refl _⟩, ⟨by (repeat (first | (with_reducible first | apply zn_ | apply zd_ | apply za_) | refine zr_ ?_ NB193_196.out _)); (with_reducible repeat (first | apply zn_ | apply zd_ | apply za_)); exact BK193.out⟩, ⟨by (with_reducible repeat (first | apply zn_ | apply zd_ | apply za_)); refine zp_ (cs := #[.string ((rd_T49 l0_2 x4_2).f0), .string ((rd_T49 l0_2 x4_2).f1), .int .i64 ((rd_T49 l0_2 x4_2).f2), .int .i64 ((rd_T49 l0_2 x4_2).f3.f0), .int .i64 ((rd_T49 l0_2 x4_2).f3.f1), .int .i64 ((rd_T49 l0_2 x4_2).f3.f2), .int .i64 ((rd_T49 l0_2 x4_2).f3.f3), .int .i64 ((rd_T49 l0_2 x4_2).f4.f0), .int .i64 ((rd_T49 l0_2 x4_2).f4.f1), .int .i64 ((rd_T49 l0_2 x4_2).f4.f2), .int .i64 ((rd_T49 l0_2 x4_2).f4.f3), .int .i64 0]) ?_ 11 _ rfl; (with_reducible repeat (first | apply zn_ | apply zd_ | apply za_)); refine zp_ (cs := #[.string ((rd_T49 l0_2 x4_2).f0), .string ((rd_T49 l0_2 x4_2).f1), .int .i64 ((rd_T49 l0_2 x4_2).f2), .int .i64 ((rd_T49 l0_2 x4_2).f3.f0), .int .i64 ((rd_T49 l0_2 x4_2).f3.f1), .int .i64 ((rd_T49 l0_2 x4_2).f3.f2), .int .i64 ((rd_T49 l0_2 x4_2).f3.f3), .int .i64 ((rd_T49 l0_2 x4_2).f4.f0), .int .i64 ((rd_T49 l0_2 x4_2).f4.f1), .int .i64 ((rd_T49 l0_2 x4_2).f4.f2), .int .i64 0, .int .i64 0]) ?_ 10 _ rfl; (with_reducible repeat (first | apply zn_ | apply zd_ | apply za_)); refine zp_ (cs := #[.string ((rd_T49 l0_2 x4_2).f0), .string ((rd_T49 l0_2 x4_2).f1), .int .i64 ((rd_T49 l0_2 x4_2).f2), .int .i64 ((rd_T49 l0_2 x4_2).f3.f0), .int .i64 ((rd_T49 l0_2 x4_2).f3.f1), .int .i64 ((rd_T49 l0_2 x4_2).f3.f2), .int .i64 ((rd_T49 l0_2 x4_2).f3.f3), .int .i64 ((rd_T49 l0_2 x4_2).f4.f0), .int .i64 ((rd_T49 l0_2 x4_2).f4.f1), .int .i64 0, .int .i64 0, .int .i64 0]) ?_ 9 _ rfl; (with_reducible repeat (first | apply zn_ | apply zd_ | apply za_)); refine zp_ (cs := #[.string ((rd_T49 l0_2 x4_2).f0), .string ((rd_T49 l0_2 x4_2).f1), .int .i64 ((rd_T49 l0_2 x4_2).f2), .int .i64 ((rd_T49 l0_2 x4_2).f3.f0), .int .i64 ((rd_T49 l0_2 x4_2).f3.f1), .int .i64 ((rd_T49 l0_2 x4_2).f3.f2), .int .i64 ((rd_T49 l0_2 x4_2).f3.f3), .int .i64 ((rd_T49 l0_2 x4_2).f4.f0), .int .i64 0, .int .i64 0, .int .i64 0, .int .i64 0]) ?_ 8 _ rfl; (with_reducible repeat (first | apply zn_ | apply zd_ | apply za_)); refine zp_ (cs := #[.string ((rd_T49 l0_2 x4_2).f0), .string ((rd_T49 l0_2 x4_2).f1), .int .i64 ((rd_T49 l0_2 x4_2).f2), .int .i64 ((rd_T49 l0_2 x4_2).f3.f0), .int .i64 ((rd_T49 l0_2 x4_2).f3.f1), .int .i64 ((rd_T49 l0_2 x4_2).f3.f2), .int .i64 ((rd_T49 l0_2 x4_2).f3.f3), .int .i64 0, .int .i64 0, .int .i64 0, .int .i64 0, .int .i64 0]) ?_ 7 _ rfl; (with_reducible repeat (first | apply zn_ | apply zd_ | apply za_)); refine zp_ (cs := #[.string ((rd_T49 l0_2 x4_2).f0), .string ((rd_T49 l0_2 x4_2).f1), .int .i64 ((rd_T49 l0_2 x4_2).f2), .int .i64 ((rd_T49 l0_2 x4_2).f3.f0), .int .i64 ((rd_T49 l0_2 x4_2).f3.f1), .int .i64 ((rd_T49 l0_2 x4_2).f3.f2), .int .i64 0, .int .i64 0, .int .i64 0, .int .i64 0, .int .i64 0, .int .i64 0]) ?_ 6 _ rfl; (with_reducible repeat (first | apply zn_ | apply zd_ | apply za_)); refine zp_ (cs := #[.string ((rd_T49 l0_2 x4_2).f0), .string ((rd_T49 l0_2 x4_2).f1), .int .i64 ((rd_T49 l0_2 x4_2).f2), .int .i64 ((rd_T49 l0_2 x4_2).f3.f0), .int .i64 ((rd_T49 l0_2 x4_2).f3.f1), .int .i64 0, .int .i64 0, .int .i64 0, .int .i64 0, .int .i64 0, .int .i64 0, .int .i64 0]) ?_ 5 _ rfl; (with_reducible repeat (first | apply zn_ | apply zd_ | apply za_)); refine zp_ (cs := #[.string ((rd_T49 l0_2 x4_2).f0), .string ((rd_T49 l0_2 x4_2).f1), .int .i64 ((rd_T49 l0_2 x4_2).f2), .int .i64 ((rd_T49 l0_2 x4_2).f3.f0), .int .i64 0, .int .i64 0, .int .i64 0, .int .i64 0, .int .i64 0, .int .i64 0, .int .i64 0, .int .i64 0]) ?_ 4 _ rfl; (with_reducible repeat (first | apply zn_ | apply zd_ | apply za_)); refine zp_ (cs := #[.string ((rd_T49 l0_2 x4_2).f0), .string ((rd_T49 l0_2 x4_2).f1), .int .i64 ((rd_T49 l0_2 x4_2).f2), .int .i64 0, .int .i64 0, .int .i64 0, .int .i64 0, .int .i64 0, .int .i64 0, .int .i64 0, .int .i64 0, .int .i64 0]) ?_ 3 _ rfl; (with_reducible repeat (first | apply zn_ | apply zd_ | apply za_)); refine zp_ (cs := #[.string ((rd_T49 l0_2 x4_2).f0), .string ((rd_T49 l0_2 x4_2).f1), .int .i64 0, .int .i64 0, .int .i64 0, .int .i64 0, .int .i64 0, .int .i64 0, .int .i64 0, .int .i64 0, .int .i64 0, .int .i64 0]) ?_ 2 _ rfl; (with_reducible repeat (first | apply zn_ | apply zd_ | apply za_)); refine zp_ (cs := #[.string ((rd_T49 l0_2 x4_2).f0), .string ⟨#[]⟩, .int .i64 0, .int .i64 0, .int .i64 0, .int .i64 0, .int .i64 0, .int .i64 0, .int .i64 0, .int .i64 0, .int .i64 0, .int .i64 0]) ?_ 1 _ rfl; (with_reducible repeat (first | apply zn_ | apply zd_ | apply za_)); refine zp_ (cs := #[.string ⟨#[]⟩, .string ⟨#[]⟩, .int .i64 0, .int .i64 0, .int .i64 0, .int .i64 0, .int .i64 0, .int .i64 0, .int .i64 0, .int .i64 0, .int .i64 0, .int .i64 0]) ?_ 0 _ rfl; (with_reducible repeat (first | apply zn_ | apply zd_ | apply za_)); exact BK196.out⟩, ⟨by repeat (first | (with_reducible first | exact HB.out | apply pa_ | apply pd_ | apply p1_ | refine zs_ ?_ GE193.out | refine zs_ ?_ GE196.out) | exact HB.out)⟩⟩
                  replace c24 := Bool.eq_false_iff.mpr c24
                  subst c24
                  have H1 : (usufructref13_Check.j2 k2 x4_2 true a0_0 a0_1 l0_2 ((rd_T49 l0_2 x4_2).f0) ((rd_T49 l0_2 x4_2).f1) ((rd_T49 l0_2 x4_2).f2) ((rd_T49 l0_2 x4_2).f3.f0) ((rd_T49 l0_2 x4_2).f3.f1) ((rd_T49 l0_2 x4_2).f3.f2) ((rd_T49 l0_2 x4_2).f3.f3) ((rd_T49 l0_2 x4_2).f4.f0) ((rd_T49 l0_2 x4_2).f4.f1) ((rd_T49 l0_2 x4_2).f4.f2) ((rd_T49 l0_2 x4_2).f4.f3) ((rd_T49 l0_2 x4_2).f5)) = some (r1, r2) := by rw [if_neg (show ¬ (false = true) by decide)] at H; exact H
                  clear H
                  have H := H1
                  clear H1
                  have H' := ak_ H
                  clear H
                  have hnb28 := NB196_193.out
                  have hnc28 := NB193_196.out
                  have hcz29_0 : w20.cell? ⟨gb196, 0, none⟩ = some (.string ⟨#[]⟩) := (zc_ BK196.out 0).trans rfl
                  have hcz29_1 : w20.cell? ⟨gb196, 1, none⟩ = some (.string ⟨#[]⟩) := (zc_ BK196.out 1).trans rfl
                  have hcz29_2 : w20.cell? ⟨gb196, 2, none⟩ = some (.int .i64 0) := (zc_ BK196.out 2).trans rfl
                  have hcz29_3 : w20.cell? ⟨gb196, 3, none⟩ = some (.int .i64 0) := (zc_ BK196.out 3).trans rfl
                  have hcz29_4 : w20.cell? ⟨gb196, 4, none⟩ = some (.int .i64 0) := (zc_ BK196.out 4).trans rfl
                  have hcz29_5 : w20.cell? ⟨gb196, 5, none⟩ = some (.int .i64 0) := (zc_ BK196.out 5).trans rfl
                  have hcz29_6 : w20.cell? ⟨gb196, 6, none⟩ = some (.int .i64 0) := (zc_ BK196.out 6).trans rfl
                  have hcz29_7 : w20.cell? ⟨gb196, 7, none⟩ = some (.int .i64 0) := (zc_ BK196.out 7).trans rfl
                  have hcz29_8 : w20.cell? ⟨gb196, 8, none⟩ = some (.int .i64 0) := (zc_ BK196.out 8).trans rfl
                  have hcz29_9 : w20.cell? ⟨gb196, 9, none⟩ = some (.int .i64 0) := (zc_ BK196.out 9).trans rfl
                  have hcz29_10 : w20.cell? ⟨gb196, 10, none⟩ = some (.int .i64 0) := (zc_ BK196.out 10).trans rfl
                  have hcz29_11 : w20.cell? ⟨gb196, 11, none⟩ = some (.int .i64 0) := (zc_ BK196.out 11).trans rfl
                  have hfz29_0 := zf_ BK196.out 0
                  have hfz29_1 := zf_ BK196.out 1
                  have hfz29_2 := zf_ BK196.out 2
                  have hfz29_3 := zf_ BK196.out 3
                  have hfz29_4 := zf_ BK196.out 4
                  have hfz29_5 := zf_ BK196.out 5
                  have hfz29_6 := zf_ BK196.out 6
                  have hfz29_7 := zf_ BK196.out 7
                  have hfz29_8 := zf_ BK196.out 8
                  have hfz29_9 := zf_ BK196.out 9
                  have hfz29_10 := zf_ BK196.out 10
                  have hfz29_11 := zf_ BK196.out 11
                  go_wp2_with (first | (go_at_call 35; (with_reducible refine (usufructref02_Good.calls k2 ((rd_T49 l0_2 x4_2).f0) false _ A23.out).mono ?_); rintro e w' ⟨rfl, ⟨nd, rfl⟩⟩; (try first | exact ⟨rfl, _, World.drewN_drewN _ _ _⟩ | exact ⟨rfl, _, Eq.trans (World.drewN_drewN _ _ _) (congrArg (World.drewN _) (Nat.add_assoc _ _ _))⟩)))
                  repeat (go_quiet (first | (go_at_call 35; (with_reducible refine (usufructref02_Good.calls k2 ((rd_T49 l0_2 x4_2).f0) false _ A23.out).mono ?_); rintro e w' ⟨rfl, ⟨nd, rfl⟩⟩; (try first | exact ⟨rfl, _, World.drewN_drewN _ _ _⟩ | exact ⟨rfl, _, Eq.trans (World.drewN_drewN _ _ _) (congrArg (World.drewN _) (Nat.add_assoc _ _ _))⟩))); try go_wp2_with (first | (go_at_call 35; (with_reducible refine (usufructref02_Good.calls k2 ((rd_T49 l0_2 x4_2).f0) false _ A23.out).mono ?_); rintro e w' ⟨rfl, ⟨nd, rfl⟩⟩; (try first | exact ⟨rfl, _, World.drewN_drewN _ _ _⟩ | exact ⟨rfl, _, Eq.trans (World.drewN_drewN _ _ _) (congrArg (World.drewN _) (Nat.add_assoc _ _ _))⟩))))
                  go_meet
                  case rel => exact ⟨_, (true), (by first | rfl | (simp; done) | (simp [*]; done)), H', ⟨by have := HJ3.out; have := HK2.out; first | omega | exact Nat.le_refl _⟩, ⟨by (repeat (first | (with_reducible first | apply zn_ | apply zd_ | apply za_) | refine zr_ ?_ NB193_196.out _)); (with_reducible repeat (first | apply zn_ | apply zd_ | apply za_)); exact BK193.out⟩, ⟨by (with_reducible repeat (first | apply zn_ | apply zd_ | apply za_)); refine zp_ (cs := #[.string ((rd_T49 l0_2 x4_2).f0), .string ((rd_T49 l0_2 x4_2).f1), .int .i64 ((rd_T49 l0_2 x4_2).f2), .int .i64 ((rd_T49 l0_2 x4_2).f3.f0), .int .i64 ((rd_T49 l0_2 x4_2).f3.f1), .int .i64 ((rd_T49 l0_2 x4_2).f3.f2), .int .i64 ((rd_T49 l0_2 x4_2).f3.f3), .int .i64 ((rd_T49 l0_2 x4_2).f4.f0), .int .i64 ((rd_T49 l0_2 x4_2).f4.f1), .int .i64 ((rd_T49 l0_2 x4_2).f4.f2), .int .i64 ((rd_T49 l0_2 x4_2).f4.f3), .int .i64 0]) ?_ 11 _ rfl; (with_reducible repeat (first | apply zn_ | apply zd_ | apply za_)); refine zp_ (cs := #[.string ((rd_T49 l0_2 x4_2).f0), .string ((rd_T49 l0_2 x4_2).f1), .int .i64 ((rd_T49 l0_2 x4_2).f2), .int .i64 ((rd_T49 l0_2 x4_2).f3.f0), .int .i64 ((rd_T49 l0_2 x4_2).f3.f1), .int .i64 ((rd_T49 l0_2 x4_2).f3.f2), .int .i64 ((rd_T49 l0_2 x4_2).f3.f3), .int .i64 ((rd_T49 l0_2 x4_2).f4.f0), .int .i64 ((rd_T49 l0_2 x4_2).f4.f1), .int .i64 ((rd_T49 l0_2 x4_2).f4.f2), .int .i64 0, .int .i64 0]) ?_ 10 _ rfl; (with_reducible repeat (first | apply zn_ | apply zd_ | apply za_)); refine zp_ (cs := #[.string ((rd_T49 l0_2 x4_2).f0), .string ((rd_T49 l0_2 x4_2).f1), .int .i64 ((rd_T49 l0_2 x4_2).f2), .int .i64 ((rd_T49 l0_2 x4_2).f3.f0), .int .i64 ((rd_T49 l0_2 x4_2).f3.f1), .int .i64 ((rd_T49 l0_2 x4_2).f3.f2), .int .i64 ((rd_T49 l0_2 x4_2).f3.f3), .int .i64 ((rd_T49 l0_2 x4_2).f4.f0), .int .i64 ((rd_T49 l0_2 x4_2).f4.f1), .int .i64 0, .int .i64 0, .int .i64 0]) ?_ 9 _ rfl; (with_reducible repeat (first | apply zn_ | apply zd_ | apply za_)); refine zp_ (cs := #[.string ((rd_T49 l0_2 x4_2).f0), .string ((rd_T49 l0_2 x4_2).f1), .int .i64 ((rd_T49 l0_2 x4_2).f2), .int .i64 ((rd_T49 l0_2 x4_2).f3.f0), .int .i64 ((rd_T49 l0_2 x4_2).f3.f1), .int .i64 ((rd_T49 l0_2 x4_2).f3.f2), .int .i64 ((rd_T49 l0_2 x4_2).f3.f3), .int .i64 ((rd_T49 l0_2 x4_2).f4.f0), .int .i64 0, .int .i64 0, .int .i64 0, .int .i64 0]) ?_ 8 _ rfl; (with_reducible repeat (first | apply zn_ | apply zd_ | apply za_)); refine zp_ (cs := #[.string ((rd_T49 l0_2 x4_2).f0), .string ((rd_T49 l0_2 x4_2).f1), .int .i64 ((rd_T49 l0_2 x4_2).f2), .int .i64 ((rd_T49 l0_2 x4_2).f3.f0), .int .i64 ((rd_T49 l0_2 x4_2).f3.f1), .int .i64 ((rd_T49 l0_2 x4_2).f3.f2), .int .i64 ((rd_T49 l0_2 x4_2).f3.f3), .int .i64 0, .int .i64 0, .int .i64 0, .int .i64 0, .int .i64 0]) ?_ 7 _ rfl; (with_reducible repeat (first | apply zn_ | apply zd_ | apply za_)); refine zp_ (cs := #[.string ((rd_T49 l0_2 x4_2).f0), .string ((rd_T49 l0_2 x4_2).f1), .int .i64 ((rd_T49 l0_2 x4_2).f2), .int .i64 ((rd_T49 l0_2 x4_2).f3.f0), .int .i64 ((rd_T49 l0_2 x4_2).f3.f1), .int .i64 ((rd_T49 l0_2 x4_2).f3.f2), .int .i64 0, .int .i64 0, .int .i64 0, .int .i64 0, .int .i64 0, .int .i64 0]) ?_ 6 _ rfl; (with_reducible repeat (first | apply zn_ | apply zd_ | apply za_)); refine zp_ (cs := #[.string ((rd_T49 l0_2 x4_2).f0), .string ((rd_T49 l0_2 x4_2).f1), .int .i64 ((rd_T49 l0_2 x4_2).f2), .int .i64 ((rd_T49 l0_2 x4_2).f3.f0), .int .i64 ((rd_T49 l0_2 x4_2).f3.f1), .int .i64 0, .int .i64 0, .int .i64 0, .int .i64 0, .int .i64 0, .int .i64 0, .int .i64 0]) ?_ 5 _ rfl; (with_reducible repeat (first | apply zn_ | apply zd_ | apply za_)); refine zp_ (cs := #[.string ((rd_T49 l0_2 x4_2).f0), .string ((rd_T49 l0_2 x4_2).f1), .int .i64 ((rd_T49 l0_2 x4_2).f2), .int .i64 ((rd_T49 l0_2 x4_2).f3.f0), .int .i64 0, .int .i64 0, .int .i64 0, .int .i64 0, .int .i64 0, .int .i64 0, .int .i64 0, .int .i64 0]) ?_ 4 _ rfl; (with_reducible repeat (first | apply zn_ | apply zd_ | apply za_)); refine zp_ (cs := #[.string ((rd_T49 l0_2 x4_2).f0), .string ((rd_T49 l0_2 x4_2).f1), .int .i64 ((rd_T49 l0_2 x4_2).f2), .int .i64 0, .int .i64 0, .int .i64 0, .int .i64 0, .int .i64 0, .int .i64 0, .int .i64 0, .int .i64 0, .int .i64 0]) ?_ 3 _ rfl; (with_reducible repeat (first | apply zn_ | apply zd_ | apply za_)); refine zp_ (cs := #[.string ((rd_T49 l0_2 x4_2).f0), .string ((rd_T49 l0_2 x4_2).f1), .int .i64 0, .int .i64 0, .int .i64 0, .int .i64 0, .int .i64 0, .int .i64 0, .int .i64 0, .int .i64 0, .int .i64 0, .int .i64 0]) ?_ 2 _ rfl; (with_reducible repeat (first | apply zn_ | apply zd_ | apply za_)); refine zp_ (cs := #[.string ((rd_T49 l0_2 x4_2).f0), .string ⟨#[]⟩, .int .i64 0, .int .i64 0, .int .i64 0, .int .i64 0, .int .i64 0, .int .i64 0, .int .i64 0, .int .i64 0, .int .i64 0, .int .i64 0]) ?_ 1 _ rfl; (with_reducible repeat (first | apply zn_ | apply zd_ | apply za_)); refine zp_ (cs := #[.string ⟨#[]⟩, .string ⟨#[]⟩, .int .i64 0, .int .i64 0, .int .i64 0, .int .i64 0, .int .i64 0, .int .i64 0, .int .i64 0, .int .i64 0, .int .i64 0, .int .i64 0]) ?_ 0 _ rfl; (with_reducible repeat (first | apply zn_ | apply zd_ | apply za_)); exact BK196.out⟩, ⟨by repeat (first | (with_reducible first | exact HB.out | apply pa_ | apply pd_ | apply p1_ | refine zs_ ?_ GE193.out | refine zs_ ?_ GE196.out) | exact HB.out)⟩⟩
                case rest =>
                  clear HC18
                  try clear c1
                  try clear p1
                  try clear q1
                  try clear hx1
                  try clear c2
                  try clear p2
                  try clear c3
                  try clear c7
                  try clear c7b0
                  try clear c10
                  try clear c11
                  try clear c11b0
                  try clear c11b1
                  try clear c13
                  try clear c13b0
                  try clear c13b1
                  try clear c16
                  try clear c16b0
                  try clear c17
                  try clear c17b0
                  try clear p19
                  try clear q19
                  try clear hx19
                  try clear c20
                  try clear c21
                  try clear c24
                  try clear c26
                  try clear c28
                  try clear hcz12_0
                  try clear hcz12_1
                  try clear hcz12_2
                  try clear hcz14_0
                  try clear hcz14_1
                  try clear hcz14_2
                  try clear hcz15_0
                  try clear hcz15_1
                  try clear hcz15_2
                  try clear hcz19_0
                  try clear hcz19_1
                  try clear hcz19_2
                  try clear hcz22_0
                  try clear hcz22_1
                  try clear hcz22_10
                  try clear hcz22_11
                  try clear hcz22_2
                  try clear hcz22_3
                  try clear hcz22_4
                  try clear hcz22_5
                  try clear hcz22_6
                  try clear hcz22_7
                  try clear hcz22_8
                  try clear hcz22_9
                  try clear hcz27_0
                  try clear hcz27_1
                  try clear hcz27_10
                  try clear hcz27_11
                  try clear hcz27_2
                  try clear hcz27_3
                  try clear hcz27_4
                  try clear hcz27_5
                  try clear hcz27_6
                  try clear hcz27_7
                  try clear hcz27_8
                  try clear hcz27_9
                  try clear hcz29_0
                  try clear hcz29_1
                  try clear hcz29_10
                  try clear hcz29_11
                  try clear hcz29_2
                  try clear hcz29_3
                  try clear hcz29_4
                  try clear hcz29_5
                  try clear hcz29_6
                  try clear hcz29_7
                  try clear hcz29_8
                  try clear hcz29_9
                  try clear hcz6_0
                  try clear hcz6_1
                  try clear hcz6_2
                  try clear hcz8_0
                  try clear hcz8_1
                  try clear hcz8_2
                  try clear hcz9_0
                  try clear hcz9_1
                  try clear hcz9_2
                  try clear hfz12_0
                  try clear hfz12_1
                  try clear hfz12_2
                  try clear hfz14_0
                  try clear hfz14_1
                  try clear hfz14_2
                  try clear hfz15_0
                  try clear hfz15_1
                  try clear hfz15_2
                  try clear hfz19_0
                  try clear hfz19_1
                  try clear hfz19_2
                  try clear hfz22_0
                  try clear hfz22_1
                  try clear hfz22_10
                  try clear hfz22_11
                  try clear hfz22_2
                  try clear hfz22_3
                  try clear hfz22_4
                  try clear hfz22_5
                  try clear hfz22_6
                  try clear hfz22_7
                  try clear hfz22_8
                  try clear hfz22_9
                  try clear hfz27_0
                  try clear hfz27_1
                  try clear hfz27_10
                  try clear hfz27_11
                  try clear hfz27_2
                  try clear hfz27_3
                  try clear hfz27_4
                  try clear hfz27_5
                  try clear hfz27_6
                  try clear hfz27_7
                  try clear hfz27_8
                  try clear hfz27_9
                  try clear hfz29_0
                  try clear hfz29_1
                  try clear hfz29_10
                  try clear hfz29_11
                  try clear hfz29_2
                  try clear hfz29_3
                  try clear hfz29_4
                  try clear hfz29_5
                  try clear hfz29_6
                  try clear hfz29_7
                  try clear hfz29_8
                  try clear hfz29_9
                  try clear hfz6_0
                  try clear hfz6_1
                  try clear hfz6_2
                  try clear hfz8_0
                  try clear hfz8_1
                  try clear hfz8_2
                  try clear hfz9_0
                  try clear hfz9_1
                  try clear hfz9_2
                  try clear hx195_0
                  try clear hx195_1
                  try clear hx195_10
                  try clear hx195_11
                  try clear hx195_2
                  try clear hx195_3
                  try clear hx195_4
                  try clear hx195_5
                  try clear hx195_6
                  try clear hx195_7
                  try clear hx195_8
                  try clear hx195_9
                  try clear p195
                  try clear p2
                  try clear q195
                  obtain ⟨kq, x48_17, rfl, HA, HJ17, BK193, BK196, HB⟩ := hcut
                  cases kq with
                  | zero => exact absurd HA.out (by simp [usufructref13_Check.j2])
                  | succ kj17 =>
                    have H := HA.out
                    clear HA
                    simp only [usufructref13_Check.j2] at H
                    by_cases c30 : x48_17 = true
                    · subst c30
                      have H1 : (some (x4_2, 10)) = some (r1, r2) := by rw [if_pos rfl] at H; exact H
                      clear H
                      have H := H1
                      clear H1
                      simp only [Option.some.injEq, Prod.mk.injEq] at H
                      obtain ⟨rfl, rfl⟩ := H
                      go_wp2
                      repeat (go_quiet (fail); try go_wp2)
                      go_ret2
                      exact ⟨by first | rfl | (simp [errW_none, errW_some] <;> rfl) | (simp [*, errW_none, errW_some] <;> rfl), by repeat (first | (with_reducible first | exact HB.out | apply pa_ | apply pd_ | apply p1_ | refine zs_ ?_ GE193.out | refine zs_ ?_ GE196.out) | exact HB.out)⟩
                    replace c30 := Bool.eq_false_iff.mpr c30
                    subst c30
                    have H1 : (usufructref13_Check.l1 kj17 x4_2 0 a0_0 a0_1 l0_2 ((rd_T49 l0_2 x4_2).f0) ((rd_T49 l0_2 x4_2).f1) ((rd_T49 l0_2 x4_2).f2) ((rd_T49 l0_2 x4_2).f3.f0) ((rd_T49 l0_2 x4_2).f3.f1) ((rd_T49 l0_2 x4_2).f3.f2) ((rd_T49 l0_2 x4_2).f3.f3) ((rd_T49 l0_2 x4_2).f4.f0) ((rd_T49 l0_2 x4_2).f4.f1) ((rd_T49 l0_2 x4_2).f4.f2) ((rd_T49 l0_2 x4_2).f4.f3) ((rd_T49 l0_2 x4_2).f5)) = some (r1, r2) := by rw [if_neg (show ¬ (false = true) by decide)] at H; exact H
                    clear H
                    have H := H1
                    clear H1
                    have H' := ak_ H
                    clear H
                    go_wp2
                    repeat (go_quiet (fail); try go_wp2)
                    go_loopg [6] kj17 (fun kq v6 w' => ∃ (x6_4 : Int), v6 = .int .i64 x6_4 ∧ Aside0 (usufructref13_Check.l1 kq x4_2 x6_4 a0_0 a0_1 l0_2 ((rd_T49 l0_2 x4_2).f0) ((rd_T49 l0_2 x4_2).f1) ((rd_T49 l0_2 x4_2).f2) ((rd_T49 l0_2 x4_2).f3.f0) ((rd_T49 l0_2 x4_2).f3.f1) ((rd_T49 l0_2 x4_2).f3.f2) ((rd_T49 l0_2 x4_2).f3.f3) ((rd_T49 l0_2 x4_2).f4.f0) ((rd_T49 l0_2 x4_2).f4.f1) ((rd_T49 l0_2 x4_2).f4.f2) ((rd_T49 l0_2 x4_2).f4.f3) ((rd_T49 l0_2 x4_2).f5) = some (r1, r2)) ∧ Aside0 (kq ≤ kj17) ∧ Aside0 (w'.heap[gb193]? = some (.cells #[.string a0_0, .int .i64 a0_1, (.slice (some ad195) l0_2.length c0_2)] 28 (0, 0))) ∧ Aside0 (w'.heap[gb196]? = some (.cells #[.string ((rd_T49 l0_2 x4_2).f0), .string ((rd_T49 l0_2 x4_2).f1), .int .i64 ((rd_T49 l0_2 x4_2).f2), .int .i64 ((rd_T49 l0_2 x4_2).f3.f0), .int .i64 ((rd_T49 l0_2 x4_2).f3.f1), .int .i64 ((rd_T49 l0_2 x4_2).f3.f2), .int .i64 ((rd_T49 l0_2 x4_2).f3.f3), .int .i64 ((rd_T49 l0_2 x4_2).f4.f0), .int .i64 ((rd_T49 l0_2 x4_2).f4.f1), .int .i64 ((rd_T49 l0_2 x4_2).f4.f2), .int .i64 ((rd_T49 l0_2 x4_2).f4.f3), .int .i64 ((rd_T49 l0_2 x4_2).f5)] 49 (0, 0))) ∧ Aside0 (Below w.heap.size w w'))
                    case atStart => exact ⟨(0), (by first | rfl | (simp; done) | (simp [*]; done)), H', ⟨Nat.le_refl _⟩, ⟨by (with_reducible repeat (first | apply zn_ | apply zd_ | apply za_)); exact BK193.out⟩, ⟨by (with_reducible repeat (first | apply zn_ | apply zd_ | apply za_)); exact BK196.out⟩, ⟨by repeat (first | (with_reducible first | exact HB.out | apply pa_ | apply pd_ | apply p1_ | refine zs_ ?_ GE193.out | refine zs_ ?_ GE196.out) | exact HB.out)⟩⟩
                    case round =>
                      clear H'
                      try clear c1
                      try clear p1
                      try clear q1
                      try clear hx1
                      try clear c2
                      try clear p2
                      try clear c3
                      try clear c7
                      try clear c7b0
                      try clear c10
                      try clear c11
                      try clear c11b0
                      try clear c11b1
                      try clear c13
                      try clear c13b0
                      try clear c13b1
                      try clear c16
                      try clear c16b0
                      try clear c17
                      try clear c17b0
                      try clear p19
                      try clear q19
                      try clear hx19
                      try clear c20
                      try clear c21
                      try clear c24
                      try clear c26
                      try clear c28
                      try clear c30
                      try clear hcz12_0
                      try clear hcz12_1
                      try clear hcz12_2
                      try clear hcz14_0
                      try clear hcz14_1
                      try clear hcz14_2
                      try clear hcz15_0
                      try clear hcz15_1
                      try clear hcz15_2
                      try clear hcz19_0
                      try clear hcz19_1
                      try clear hcz19_2
                      try clear hcz22_0
                      try clear hcz22_1
                      try clear hcz22_10
                      try clear hcz22_11
                      try clear hcz22_2
                      try clear hcz22_3
                      try clear hcz22_4
                      try clear hcz22_5
                      try clear hcz22_6
                      try clear hcz22_7
                      try clear hcz22_8
                      try clear hcz22_9
                      try clear hcz27_0
                      try clear hcz27_1
                      try clear hcz27_10
                      try clear hcz27_11
                      try clear hcz27_2
                      try clear hcz27_3
                      try clear hcz27_4
                      try clear hcz27_5
                      try clear hcz27_6
                      try clear hcz27_7
                      try clear hcz27_8
                      try clear hcz27_9
                      try clear hcz29_0
                      try clear hcz29_1
                      try clear hcz29_10
                      try clear hcz29_11
                      try clear hcz29_2
                      try clear hcz29_3
                      try clear hcz29_4
                      try clear hcz29_5
                      try clear hcz29_6
                      try clear hcz29_7
                      try clear hcz29_8
                      try clear hcz29_9
                      try clear hcz6_0
                      try clear hcz6_1
                      try clear hcz6_2
                      try clear hcz8_0
                      try clear hcz8_1
                      try clear hcz8_2
                      try clear hcz9_0
                      try clear hcz9_1
                      try clear hcz9_2
                      try clear hfz12_0
                      try clear hfz12_1
                      try clear hfz12_2
                      try clear hfz14_0
                      try clear hfz14_1
                      try clear hfz14_2
                      try clear hfz15_0
                      try clear hfz15_1
                      try clear hfz15_2
                      try clear hfz19_0
                      try clear hfz19_1
                      try clear hfz19_2
                      try clear hfz22_0
                      try clear hfz22_1
                      try clear hfz22_10
                      try clear hfz22_11
                      try clear hfz22_2
                      try clear hfz22_3
                      try clear hfz22_4
                      try clear hfz22_5
                      try clear hfz22_6
                      try clear hfz22_7
                      try clear hfz22_8
                      try clear hfz22_9
                      try clear hfz27_0
                      try clear hfz27_1
                      try clear hfz27_10
                      try clear hfz27_11
                      try clear hfz27_2
                      try clear hfz27_3
                      try clear hfz27_4
                      try clear hfz27_5
                      try clear hfz27_6
                      try clear hfz27_7
                      try clear hfz27_8
                      try clear hfz27_9
                      try clear hfz29_0
                      try clear hfz29_1
                      try clear hfz29_10
                      try clear hfz29_11
                      try clear hfz29_2
                      try clear hfz29_3
                      try clear hfz29_4
                      try clear hfz29_5
                      try clear hfz29_6
                      try clear hfz29_7
                      try clear hfz29_8
                      try clear hfz29_9
                      try clear hfz6_0
                      try clear hfz6_1
                      try clear hfz6_2
                      try clear hfz8_0
                      try clear hfz8_1
                      try clear hfz8_2
                      try clear hfz9_0
                      try clear hfz9_1
                      try clear hfz9_2
                      try clear hx195_0
                      try clear hx195_1
                      try clear hx195_10
                      try clear hx195_11
                      try clear hx195_2
                      try clear hx195_3
                      try clear hx195_4
                      try clear hx195_5
                      try clear hx195_6
                      try clear hx195_7
                      try clear hx195_8
                      try clear hx195_9
                      try clear p1
                      try clear p19
                      try clear p195
                      try clear p2
                      try clear q1
                      try clear q19
                      try clear q195
                      obtain ⟨x6_4, rfl, HA, HK4, BK193, BK196, HB⟩ := hrel
                      cases gk with
                      | zero => exact absurd HA.out (by simp [usufructref13_Check.l1])
                      | succ k4 =>
                        have H := HA.out
                        clear HA
                        simp only [usufructref13_Check.l1] at H
                        by_cases c31 : x6_4 < x4_2
                        · rw [if_pos c31] at H
                          have c31b0 : decide (x6_4 < x4_2) = true := decide_eq_true c31
                          clear c31
                          by_cases c32 : 0 ≤ x6_4
                          · rw [if_pos c32] at H
                            have c32b0 : decide (0 ≤ x6_4) = true := decide_eq_true c32
                            clear c32
                            by_cases c33 : x6_4 < (l0_2.length : Int)
                            · rw [if_pos c33] at H
                              have c33b0 : decide (x6_4 < (l0_2.length : Int)) = true := decide_eq_true c33
                              clear c33
                              by_cases c34 : ((rd_T49 l0_2 x6_4).f0).toList = ((rd_T49 l0_2 x4_2).f0).toList
                              · rw [if_pos c34] at H
                                have c34b0 : (((rd_T49 l0_2 x6_4).f0).toList == ((rd_T49 l0_2 x4_2).f0).toList) = true := beq_iff_eq.mpr c34
                                have c34b1 : (((rd_T49 l0_2 x6_4).f0).toList != ((rd_T49 l0_2 x4_2).f0).toList) = false := bne_eq_false_iff_eq.mpr c34
                                clear c34
                                simp only [Option.some.injEq, Prod.mk.injEq] at H
                                obtain ⟨rfl, rfl⟩ := H
                                have hnb35 := NB193_196.out
                                have hnc35 := NB196_193.out
                                have hcz36_0 : wr.cell? ⟨gb193, 0, none⟩ = some (.string a0_0) := (zc_ BK193.out 0).trans rfl
                                have hcz36_1 : wr.cell? ⟨gb193, 1, none⟩ = some (.int .i64 a0_1) := (zc_ BK193.out 1).trans rfl
                                have hcz36_2 : wr.cell? ⟨gb193, 2, none⟩ = some (.slice (some ad195) l0_2.length c0_2) := (zc_ BK193.out 2).trans rfl
                                have hfz36_0 := zf_ BK193.out 0
                                have hfz36_1 := zf_ BK193.out 1
                                have hfz36_2 := zf_ BK193.out 2
                                have p199 : 0 ≤ (x6_4 : Int) := of_decide_eq_true (by assumption)
                                have q199 : x6_4 < (l0_2.length : Int) := of_decide_eq_true (by assumption)
                                obtain ⟨ad199, e199, hx199_0, hx199_1, hx199_2, hx199_3, hx199_4, hx199_5, hx199_6, hx199_7, hx199_8, hx199_9, hx199_10, hx199_11⟩ := at_T49 HR0_2.out x6_4 p199 q199
                                obtain rfl : ad195 = ad199 := (by injection e199)
                                replace hx199_0 := (HB.out.cell (bl_ w _ hx199_0)).trans hx199_0
                                replace hx199_1 := (HB.out.cell (bl_ w _ hx199_1)).trans hx199_1
                                replace hx199_2 := (HB.out.cell (bl_ w _ hx199_2)).trans hx199_2
                                replace hx199_3 := (HB.out.cell (bl_ w _ hx199_3)).trans hx199_3
                                replace hx199_4 := (HB.out.cell (bl_ w _ hx199_4)).trans hx199_4
                                replace hx199_5 := (HB.out.cell (bl_ w _ hx199_5)).trans hx199_5
                                replace hx199_6 := (HB.out.cell (bl_ w _ hx199_6)).trans hx199_6
                                replace hx199_7 := (HB.out.cell (bl_ w _ hx199_7)).trans hx199_7
                                replace hx199_8 := (HB.out.cell (bl_ w _ hx199_8)).trans hx199_8
                                replace hx199_9 := (HB.out.cell (bl_ w _ hx199_9)).trans hx199_9
                                replace hx199_10 := (HB.out.cell (bl_ w _ hx199_10)).trans hx199_10
                                replace hx199_11 := (HB.out.cell (bl_ w _ hx199_11)).trans hx199_11
                                replace p199 := eq_true p199
                                replace q199 := eq_true q199
                                have hcz37_0 : wr.cell? ⟨gb196, 0, none⟩ = some (.string ((rd_T49 l0_2 x4_2).f0)) := (zc_ BK196.out 0).trans rfl
                                have hcz37_1 : wr.cell? ⟨gb196, 1, none⟩ = some (.string ((rd_T49 l0_2 x4_2).f1)) := (zc_ BK196.out 1).trans rfl
                                have hcz37_2 : wr.cell? ⟨gb196, 2, none⟩ = some (.int .i64 ((rd_T49 l0_2 x4_2).f2)) := (zc_ BK196.out 2).trans rfl
                                have hcz37_3 : wr.cell? ⟨gb196, 3, none⟩ = some (.int .i64 ((rd_T49 l0_2 x4_2).f3.f0)) := (zc_ BK196.out 3).trans rfl
                                have hcz37_4 : wr.cell? ⟨gb196, 4, none⟩ = some (.int .i64 ((rd_T49 l0_2 x4_2).f3.f1)) := (zc_ BK196.out 4).trans rfl
                                have hcz37_5 : wr.cell? ⟨gb196, 5, none⟩ = some (.int .i64 ((rd_T49 l0_2 x4_2).f3.f2)) := (zc_ BK196.out 5).trans rfl
                                have hcz37_6 : wr.cell? ⟨gb196, 6, none⟩ = some (.int .i64 ((rd_T49 l0_2 x4_2).f3.f3)) := (zc_ BK196.out 6).trans rfl
                                have hcz37_7 : wr.cell? ⟨gb196, 7, none⟩ = some (.int .i64 ((rd_T49 l0_2 x4_2).f4.f0)) := (zc_ BK196.out 7).trans rfl
                                have hcz37_8 : wr.cell? ⟨gb196, 8, none⟩ = some (.int .i64 ((rd_T49 l0_2 x4_2).f4.f1)) := (zc_ BK196.out 8).trans rfl
                                have hcz37_9 : wr.cell? ⟨gb196, 9, none⟩ = some (.int .i64 ((rd_T49 l0_2 x4_2).f4.f2)) := (zc_ BK196.out 9).trans rfl
                                have hcz37_10 : wr.cell? ⟨gb196, 10, none⟩ = some (.int .i64 ((rd_T49 l0_2 x4_2).f4.f3)) := (zc_ BK196.out 10).trans rfl
                                have hcz37_11 : wr.cell? ⟨gb196, 11, none⟩ = some (.int .i64 ((rd_T49 l0_2 x4_2).f5)) := (zc_ BK196.out 11).trans rfl
                                have hfz37_0 := zf_ BK196.out 0
                                have hfz37_1 := zf_ BK196.out 1
                                have hfz37_2 := zf_ BK196.out 2
                                have hfz37_3 := zf_ BK196.out 3
                                have hfz37_4 := zf_ BK196.out 4
                                have hfz37_5 := zf_ BK196.out 5
                                have hfz37_6 := zf_ BK196.out 6
                                have hfz37_7 := zf_ BK196.out 7
                                have hfz37_8 := zf_ BK196.out 8
                                have hfz37_9 := zf_ BK196.out 9
                                have hfz37_10 := zf_ BK196.out 10
                                have hfz37_11 := zf_ BK196.out 11
                                go_wp2
                                repeat (go_quiet (fail); try go_wp2)
                                go_ret2
                                exact ⟨by first | rfl | (simp [errW_none, errW_some] <;> rfl) | (simp [*, errW_none, errW_some] <;> rfl), by repeat (first | (with_reducible first | exact HB.out | apply pa_ | apply pd_ | apply p1_ | refine zs_ ?_ GE193.out | refine zs_ ?_ GE196.out) | exact HB.out)⟩
                              rw [if_neg c34] at H
                              have c34b0 : (((rd_T49 l0_2 x6_4).f0).toList == ((rd_T49 l0_2 x4_2).f0).toList) = false := beq_eq_false_iff_ne.mpr c34
                              have c34b1 : (((rd_T49 l0_2 x6_4).f0).toList != ((rd_T49 l0_2 x4_2).f0).toList) = true := bne_iff_ne.mpr c34
                              have H' := ak_ H
                              clear H
                              have hnb38 := NB193_196.out
                              have hnc38 := NB196_193.out
                              have hcz39_0 : wr.cell? ⟨gb193, 0, none⟩ = some (.string a0_0) := (zc_ BK193.out 0).trans rfl
                              have hcz39_1 : wr.cell? ⟨gb193, 1, none⟩ = some (.int .i64 a0_1) := (zc_ BK193.out 1).trans rfl
                              have hcz39_2 : wr.cell? ⟨gb193, 2, none⟩ = some (.slice (some ad195) l0_2.length c0_2) := (zc_ BK193.out 2).trans rfl
                              have hfz39_0 := zf_ BK193.out 0
                              have hfz39_1 := zf_ BK193.out 1
                              have hfz39_2 := zf_ BK193.out 2
                              have p199 : 0 ≤ (x6_4 : Int) := of_decide_eq_true (by assumption)
                              have q199 : x6_4 < (l0_2.length : Int) := of_decide_eq_true (by assumption)
                              obtain ⟨ad199, e199, hx199_0, hx199_1, hx199_2, hx199_3, hx199_4, hx199_5, hx199_6, hx199_7, hx199_8, hx199_9, hx199_10, hx199_11⟩ := at_T49 HR0_2.out x6_4 p199 q199
                              obtain rfl : ad195 = ad199 := (by injection e199)
                              replace hx199_0 := (HB.out.cell (bl_ w _ hx199_0)).trans hx199_0
                              replace hx199_1 := (HB.out.cell (bl_ w _ hx199_1)).trans hx199_1
                              replace hx199_2 := (HB.out.cell (bl_ w _ hx199_2)).trans hx199_2
                              replace hx199_3 := (HB.out.cell (bl_ w _ hx199_3)).trans hx199_3
                              replace hx199_4 := (HB.out.cell (bl_ w _ hx199_4)).trans hx199_4
                              replace hx199_5 := (HB.out.cell (bl_ w _ hx199_5)).trans hx199_5
                              replace hx199_6 := (HB.out.cell (bl_ w _ hx199_6)).trans hx199_6
                              replace hx199_7 := (HB.out.cell (bl_ w _ hx199_7)).trans hx199_7
                              replace hx199_8 := (HB.out.cell (bl_ w _ hx199_8)).trans hx199_8
                              replace hx199_9 := (HB.out.cell (bl_ w _ hx199_9)).trans hx199_9
                              replace hx199_10 := (HB.out.cell (bl_ w _ hx199_10)).trans hx199_10
                              replace hx199_11 := (HB.out.cell (bl_ w _ hx199_11)).trans hx199_11
                              replace p199 := eq_true p199
                              replace q199 := eq_true q199
                              have hcz40_0 : wr.cell? ⟨gb196, 0, none⟩ = some (.string ((rd_T49 l0_2 x4_2).f0)) := (zc_ BK196.out 0).trans rfl
                              have hcz40_1 : wr.cell? ⟨gb196, 1, none⟩ = some (.string ((rd_T49 l0_2 x4_2).f1)) := (zc_ BK196.out 1).trans rfl
                              have hcz40_2 : wr.cell? ⟨gb196, 2, none⟩ = some (.int .i64 ((rd_T49 l0_2 x4_2).f2)) := (zc_ BK196.out 2).trans rfl
                              have hcz40_3 : wr.cell? ⟨gb196, 3, none⟩ = some (.int .i64 ((rd_T49 l0_2 x4_2).f3.f0)) := (zc_ BK196.out 3).trans rfl
                              have hcz40_4 : wr.cell? ⟨gb196, 4, none⟩ = some (.int .i64 ((rd_T49 l0_2 x4_2).f3.f1)) := (zc_ BK196.out 4).trans rfl
                              have hcz40_5 : wr.cell? ⟨gb196, 5, none⟩ = some (.int .i64 ((rd_T49 l0_2 x4_2).f3.f2)) := (zc_ BK196.out 5).trans rfl
                              have hcz40_6 : wr.cell? ⟨gb196, 6, none⟩ = some (.int .i64 ((rd_T49 l0_2 x4_2).f3.f3)) := (zc_ BK196.out 6).trans rfl
                              have hcz40_7 : wr.cell? ⟨gb196, 7, none⟩ = some (.int .i64 ((rd_T49 l0_2 x4_2).f4.f0)) := (zc_ BK196.out 7).trans rfl
                              have hcz40_8 : wr.cell? ⟨gb196, 8, none⟩ = some (.int .i64 ((rd_T49 l0_2 x4_2).f4.f1)) := (zc_ BK196.out 8).trans rfl
                              have hcz40_9 : wr.cell? ⟨gb196, 9, none⟩ = some (.int .i64 ((rd_T49 l0_2 x4_2).f4.f2)) := (zc_ BK196.out 9).trans rfl
                              have hcz40_10 : wr.cell? ⟨gb196, 10, none⟩ = some (.int .i64 ((rd_T49 l0_2 x4_2).f4.f3)) := (zc_ BK196.out 10).trans rfl
                              have hcz40_11 : wr.cell? ⟨gb196, 11, none⟩ = some (.int .i64 ((rd_T49 l0_2 x4_2).f5)) := (zc_ BK196.out 11).trans rfl
                              have hfz40_0 := zf_ BK196.out 0
                              have hfz40_1 := zf_ BK196.out 1
                              have hfz40_2 := zf_ BK196.out 2
                              have hfz40_3 := zf_ BK196.out 3
                              have hfz40_4 := zf_ BK196.out 4
                              have hfz40_5 := zf_ BK196.out 5
                              have hfz40_6 := zf_ BK196.out 6
                              have hfz40_7 := zf_ BK196.out 7
                              have hfz40_8 := zf_ BK196.out 8
                              have hfz40_9 := zf_ BK196.out 9
                              have hfz40_10 := zf_ BK196.out 10
                              have hfz40_11 := zf_ BK196.out 11
                              go_wp2
                              repeat (go_quiet (fail); try go_wp2)
                              go_roundg k4
                              case measure => have := HJ3.out; have := HK2.out; have := HJ17.out; have := HK4.out; omega
                              case rel => exact ⟨(wrap64 (x6_4 + 1)), (by first | rfl | (simp; done) | (simp [*]; done)), H', ⟨by have := HJ3.out; have := HK2.out; have := HJ17.out; have := HK4.out; omega⟩, ⟨by (with_reducible repeat (first | apply zn_ | apply zd_ | apply za_)); exact BK193.out⟩, ⟨by (with_reducible repeat (first | apply zn_ | apply zd_ | apply za_)); exact BK196.out⟩, ⟨by repeat (first | (with_reducible first | exact HB.out | apply pa_ | apply pd_ | apply p1_ | refine zs_ ?_ GE193.out | refine zs_ ?_ GE196.out) | exact HB.out)⟩⟩
                            rw [if_neg c33] at H
                            exact absurd H (by simp)
                          rw [if_neg c32] at H
                          exact absurd H (by simp)
                        rw [if_neg c31] at H
                        have c31b0 : decide (x6_4 < x4_2) = false := decide_eq_false c31
                        clear c31
                        have HC41 := ak_ H
                        clear H
                        go_upto_region 20 with (fail)
                        repeat (go_quiet (fail); go_upto_region 20 with (fail))
                        go_cut [82] (fun v82 wc => ∃ (kq : Nat) (x82_40 : Bool), v82 = .bool x82_40 ∧ Aside0 (usufructref13_Check.j4 kq x4_2 x82_40 a0_0 a0_1 l0_2 ((rd_T49 l0_2 x4_2).f0) ((rd_T49 l0_2 x4_2).f1) ((rd_T49 l0_2 x4_2).f2) ((rd_T49 l0_2 x4_2).f3.f0) ((rd_T49 l0_2 x4_2).f3.f1) ((rd_T49 l0_2 x4_2).f3.f2) ((rd_T49 l0_2 x4_2).f3.f3) ((rd_T49 l0_2 x4_2).f4.f0) ((rd_T49 l0_2 x4_2).f4.f1) ((rd_T49 l0_2 x4_2).f4.f2) ((rd_T49 l0_2 x4_2).f4.f3) ((rd_T49 l0_2 x4_2).f5) = some (r1, r2)) ∧ Aside0 (kq ≤ k4) ∧ Aside0 (wc.heap[gb193]? = some (.cells #[.string a0_0, .int .i64 a0_1, (.slice (some ad195) l0_2.length c0_2)] 28 (0, 0))) ∧ Aside0 (wc.heap[gb196]? = some (.cells #[.string ((rd_T49 l0_2 x4_2).f0), .string ((rd_T49 l0_2 x4_2).f1), .int .i64 ((rd_T49 l0_2 x4_2).f2), .int .i64 ((rd_T49 l0_2 x4_2).f3.f0), .int .i64 ((rd_T49 l0_2 x4_2).f3.f1), .int .i64 ((rd_T49 l0_2 x4_2).f3.f2), .int .i64 ((rd_T49 l0_2 x4_2).f3.f3), .int .i64 ((rd_T49 l0_2 x4_2).f4.f0), .int .i64 ((rd_T49 l0_2 x4_2).f4.f1), .int .i64 ((rd_T49 l0_2 x4_2).f4.f2), .int .i64 ((rd_T49 l0_2 x4_2).f4.f3), .int .i64 ((rd_T49 l0_2 x4_2).f5)] 49 (0, 0))) ∧ Aside0 (Below w.heap.size w wc))
                        case first =>
                          have H := HC41.out
                          clear HC41
                          by_cases c42 : ((rd_T49 l0_2 x4_2).f2) < 1
                          · rw [if_pos c42] at H
                            have c42b0 : decide (((rd_T49 l0_2 x4_2).f2) < 1) = true := decide_eq_true c42
                            clear c42
                            (first | rw [c42b0] | (simp only [i64_w, i32_w]; rw [c42b0]) | skip)
                            have H' := ak_ H
                            clear H
                            have hnb43 := NB196_193.out
                            have hnc43 := NB193_196.out
                            have hcz44_0 : wr.cell? ⟨gb196, 0, none⟩ = some (.string ((rd_T49 l0_2 x4_2).f0)) := (zc_ BK196.out 0).trans rfl
                            have hcz44_1 : wr.cell? ⟨gb196, 1, none⟩ = some (.string ((rd_T49 l0_2 x4_2).f1)) := (zc_ BK196.out 1).trans rfl
                            have hcz44_2 : wr.cell? ⟨gb196, 2, none⟩ = some (.int .i64 ((rd_T49 l0_2 x4_2).f2)) := (zc_ BK196.out 2).trans rfl
                            have hcz44_3 : wr.cell? ⟨gb196, 3, none⟩ = some (.int .i64 ((rd_T49 l0_2 x4_2).f3.f0)) := (zc_ BK196.out 3).trans rfl
                            have hcz44_4 : wr.cell? ⟨gb196, 4, none⟩ = some (.int .i64 ((rd_T49 l0_2 x4_2).f3.f1)) := (zc_ BK196.out 4).trans rfl
                            have hcz44_5 : wr.cell? ⟨gb196, 5, none⟩ = some (.int .i64 ((rd_T49 l0_2 x4_2).f3.f2)) := (zc_ BK196.out 5).trans rfl
                            have hcz44_6 : wr.cell? ⟨gb196, 6, none⟩ = some (.int .i64 ((rd_T49 l0_2 x4_2).f3.f3)) := (zc_ BK196.out 6).trans rfl
                            have hcz44_7 : wr.cell? ⟨gb196, 7, none⟩ = some (.int .i64 ((rd_T49 l0_2 x4_2).f4.f0)) := (zc_ BK196.out 7).trans rfl
                            have hcz44_8 : wr.cell? ⟨gb196, 8, none⟩ = some (.int .i64 ((rd_T49 l0_2 x4_2).f4.f1)) := (zc_ BK196.out 8).trans rfl
                            have hcz44_9 : wr.cell? ⟨gb196, 9, none⟩ = some (.int .i64 ((rd_T49 l0_2 x4_2).f4.f2)) := (zc_ BK196.out 9).trans rfl
                            have hcz44_10 : wr.cell? ⟨gb196, 10, none⟩ = some (.int .i64 ((rd_T49 l0_2 x4_2).f4.f3)) := (zc_ BK196.out 10).trans rfl
                            have hcz44_11 : wr.cell? ⟨gb196, 11, none⟩ = some (.int .i64 ((rd_T49 l0_2 x4_2).f5)) := (zc_ BK196.out 11).trans rfl
                            have hfz44_0 := zf_ BK196.out 0
                            have hfz44_1 := zf_ BK196.out 1
                            have hfz44_2 := zf_ BK196.out 2
                            have hfz44_3 := zf_ BK196.out 3
                            have hfz44_4 := zf_ BK196.out 4
                            have hfz44_5 := zf_ BK196.out 5
                            have hfz44_6 := zf_ BK196.out 6
                            have hfz44_7 := zf_ BK196.out 7
                            have hfz44_8 := zf_ BK196.out 8
                            have hfz44_9 := zf_ BK196.out 9
                            have hfz44_10 := zf_ BK196.out 10
                            have hfz44_11 := zf_ BK196.out 11
                            go_wp2
                            repeat (go_quiet (fail); try go_wp2)
                            go_meet
                            case rel => exact ⟨_, (true), (by first | rfl | (simp; done) | (simp [*]; done)), H', ⟨by have := HJ3.out; have := HK2.out; have := HJ17.out; have := HK4.out; first | omega | exact Nat.le_refl _⟩, ⟨by (with_reducible repeat (first | apply zn_ | apply zd_ | apply za_)); exact BK193.out⟩, ⟨by (with_reducible repeat (first | apply zn_ | apply zd_ | apply za_)); exact BK196.out⟩, ⟨by repeat (first | (with_reducible first | exact HB.out | apply pa_ | apply pd_ | apply p1_ | refine zs_ ?_ GE193.out | refine zs_ ?_ GE196.out) | exact HB.out)⟩⟩
                          rw [if_neg c42] at H
                          have c42b0 : decide (((rd_T49 l0_2 x4_2).f2) < 1) = false := decide_eq_false c42
                          clear c42
                          (first | rw [c42b0] | (simp only [i64_w, i32_w]; rw [c42b0]) | skip)
                          by_cases c45 : ((rd_T49 l0_2 x4_2).f2) > 1099511627776
                          · rw [if_pos c45] at H
                            have c45b0 : decide (1099511627776 < ((rd_T49 l0_2 x4_2).f2)) = true := decide_eq_true c45
                            clear c45
                            have H' := ak_ H
                            clear H
                            have hnb46 := NB196_193.out
                            have hnc46 := NB193_196.out
                            have hcz47_0 : wr.cell? ⟨gb196, 0, none⟩ = some (.string ((rd_T49 l0_2 x4_2).f0)) := (zc_ BK196.out 0).trans rfl
                            have hcz47_1 : wr.cell? ⟨gb196, 1, none⟩ = some (.string ((rd_T49 l0_2 x4_2).f1)) := (zc_ BK196.out 1).trans rfl
                            have hcz47_2 : wr.cell? ⟨gb196, 2, none⟩ = some (.int .i64 ((rd_T49 l0_2 x4_2).f2)) := (zc_ BK196.out 2).trans rfl
                            have hcz47_3 : wr.cell? ⟨gb196, 3, none⟩ = some (.int .i64 ((rd_T49 l0_2 x4_2).f3.f0)) := (zc_ BK196.out 3).trans rfl
                            have hcz47_4 : wr.cell? ⟨gb196, 4, none⟩ = some (.int .i64 ((rd_T49 l0_2 x4_2).f3.f1)) := (zc_ BK196.out 4).trans rfl
                            have hcz47_5 : wr.cell? ⟨gb196, 5, none⟩ = some (.int .i64 ((rd_T49 l0_2 x4_2).f3.f2)) := (zc_ BK196.out 5).trans rfl
                            have hcz47_6 : wr.cell? ⟨gb196, 6, none⟩ = some (.int .i64 ((rd_T49 l0_2 x4_2).f3.f3)) := (zc_ BK196.out 6).trans rfl
                            have hcz47_7 : wr.cell? ⟨gb196, 7, none⟩ = some (.int .i64 ((rd_T49 l0_2 x4_2).f4.f0)) := (zc_ BK196.out 7).trans rfl
                            have hcz47_8 : wr.cell? ⟨gb196, 8, none⟩ = some (.int .i64 ((rd_T49 l0_2 x4_2).f4.f1)) := (zc_ BK196.out 8).trans rfl
                            have hcz47_9 : wr.cell? ⟨gb196, 9, none⟩ = some (.int .i64 ((rd_T49 l0_2 x4_2).f4.f2)) := (zc_ BK196.out 9).trans rfl
                            have hcz47_10 : wr.cell? ⟨gb196, 10, none⟩ = some (.int .i64 ((rd_T49 l0_2 x4_2).f4.f3)) := (zc_ BK196.out 10).trans rfl
                            have hcz47_11 : wr.cell? ⟨gb196, 11, none⟩ = some (.int .i64 ((rd_T49 l0_2 x4_2).f5)) := (zc_ BK196.out 11).trans rfl
                            have hfz47_0 := zf_ BK196.out 0
                            have hfz47_1 := zf_ BK196.out 1
                            have hfz47_2 := zf_ BK196.out 2
                            have hfz47_3 := zf_ BK196.out 3
                            have hfz47_4 := zf_ BK196.out 4
                            have hfz47_5 := zf_ BK196.out 5
                            have hfz47_6 := zf_ BK196.out 6
                            have hfz47_7 := zf_ BK196.out 7
                            have hfz47_8 := zf_ BK196.out 8
                            have hfz47_9 := zf_ BK196.out 9
                            have hfz47_10 := zf_ BK196.out 10
                            have hfz47_11 := zf_ BK196.out 11
                            go_wp2
                            repeat (go_quiet (fail); try go_wp2)
                            go_meet
                            case rel => exact ⟨_, (true), (by first | rfl | (simp; done) | (simp [*]; done)), H', ⟨by have := HJ3.out; have := HK2.out; have := HJ17.out; have := HK4.out; first | omega | exact Nat.le_refl _⟩, ⟨by (with_reducible repeat (first | apply zn_ | apply zd_ | apply za_)); exact BK193.out⟩, ⟨by (with_reducible repeat (first | apply zn_ | apply zd_ | apply za_)); exact BK196.out⟩, ⟨by repeat (first | (with_reducible first | exact HB.out | apply pa_ | apply pd_ | apply p1_ | refine zs_ ?_ GE193.out | refine zs_ ?_ GE196.out) | exact HB.out)⟩⟩
                          rw [if_neg c45] at H
                          have c45b0 : decide (1099511627776 < ((rd_T49 l0_2 x4_2).f2)) = false := decide_eq_false c45
                          clear c45
                          by_cases c48 : ((rd_T49 l0_2 x4_2).f5) < 0
                          · rw [if_pos c48] at H
                            have c48b0 : decide (((rd_T49 l0_2 x4_2).f5) < 0) = true := decide_eq_true c48
                            clear c48
                            have H' := ak_ H
                            clear H
                            have hnb49 := NB196_193.out
                            have hnc49 := NB193_196.out
                            have hcz50_0 : wr.cell? ⟨gb196, 0, none⟩ = some (.string ((rd_T49 l0_2 x4_2).f0)) := (zc_ BK196.out 0).trans rfl
                            have hcz50_1 : wr.cell? ⟨gb196, 1, none⟩ = some (.string ((rd_T49 l0_2 x4_2).f1)) := (zc_ BK196.out 1).trans rfl
                            have hcz50_2 : wr.cell? ⟨gb196, 2, none⟩ = some (.int .i64 ((rd_T49 l0_2 x4_2).f2)) := (zc_ BK196.out 2).trans rfl
                            have hcz50_3 : wr.cell? ⟨gb196, 3, none⟩ = some (.int .i64 ((rd_T49 l0_2 x4_2).f3.f0)) := (zc_ BK196.out 3).trans rfl
                            have hcz50_4 : wr.cell? ⟨gb196, 4, none⟩ = some (.int .i64 ((rd_T49 l0_2 x4_2).f3.f1)) := (zc_ BK196.out 4).trans rfl
                            have hcz50_5 : wr.cell? ⟨gb196, 5, none⟩ = some (.int .i64 ((rd_T49 l0_2 x4_2).f3.f2)) := (zc_ BK196.out 5).trans rfl
                            have hcz50_6 : wr.cell? ⟨gb196, 6, none⟩ = some (.int .i64 ((rd_T49 l0_2 x4_2).f3.f3)) := (zc_ BK196.out 6).trans rfl
                            have hcz50_7 : wr.cell? ⟨gb196, 7, none⟩ = some (.int .i64 ((rd_T49 l0_2 x4_2).f4.f0)) := (zc_ BK196.out 7).trans rfl
                            have hcz50_8 : wr.cell? ⟨gb196, 8, none⟩ = some (.int .i64 ((rd_T49 l0_2 x4_2).f4.f1)) := (zc_ BK196.out 8).trans rfl
                            have hcz50_9 : wr.cell? ⟨gb196, 9, none⟩ = some (.int .i64 ((rd_T49 l0_2 x4_2).f4.f2)) := (zc_ BK196.out 9).trans rfl
                            have hcz50_10 : wr.cell? ⟨gb196, 10, none⟩ = some (.int .i64 ((rd_T49 l0_2 x4_2).f4.f3)) := (zc_ BK196.out 10).trans rfl
                            have hcz50_11 : wr.cell? ⟨gb196, 11, none⟩ = some (.int .i64 ((rd_T49 l0_2 x4_2).f5)) := (zc_ BK196.out 11).trans rfl
                            have hfz50_0 := zf_ BK196.out 0
                            have hfz50_1 := zf_ BK196.out 1
                            have hfz50_2 := zf_ BK196.out 2
                            have hfz50_3 := zf_ BK196.out 3
                            have hfz50_4 := zf_ BK196.out 4
                            have hfz50_5 := zf_ BK196.out 5
                            have hfz50_6 := zf_ BK196.out 6
                            have hfz50_7 := zf_ BK196.out 7
                            have hfz50_8 := zf_ BK196.out 8
                            have hfz50_9 := zf_ BK196.out 9
                            have hfz50_10 := zf_ BK196.out 10
                            have hfz50_11 := zf_ BK196.out 11
                            go_wp2
                            repeat (go_quiet (fail); try go_wp2)
                            go_meet
                            case rel => exact ⟨_, (true), (by first | rfl | (simp; done) | (simp [*]; done)), H', ⟨by have := HJ3.out; have := HK2.out; have := HJ17.out; have := HK4.out; first | omega | exact Nat.le_refl _⟩, ⟨by (with_reducible repeat (first | apply zn_ | apply zd_ | apply za_)); exact BK193.out⟩, ⟨by (with_reducible repeat (first | apply zn_ | apply zd_ | apply za_)); exact BK196.out⟩, ⟨by repeat (first | (with_reducible first | exact HB.out | apply pa_ | apply pd_ | apply p1_ | refine zs_ ?_ GE193.out | refine zs_ ?_ GE196.out) | exact HB.out)⟩⟩
                          rw [if_neg c48] at H
                          have c48b0 : decide (((rd_T49 l0_2 x4_2).f5) < 0) = false := decide_eq_false c48
                          clear c48
                          have H' := ak_ H
                          clear H
                          have hnb51 := NB196_193.out
                          have hnc51 := NB193_196.out
                          have hcz52_0 : wr.cell? ⟨gb196, 0, none⟩ = some (.string ((rd_T49 l0_2 x4_2).f0)) := (zc_ BK196.out 0).trans rfl
                          have hcz52_1 : wr.cell? ⟨gb196, 1, none⟩ = some (.string ((rd_T49 l0_2 x4_2).f1)) := (zc_ BK196.out 1).trans rfl
                          have hcz52_2 : wr.cell? ⟨gb196, 2, none⟩ = some (.int .i64 ((rd_T49 l0_2 x4_2).f2)) := (zc_ BK196.out 2).trans rfl
                          have hcz52_3 : wr.cell? ⟨gb196, 3, none⟩ = some (.int .i64 ((rd_T49 l0_2 x4_2).f3.f0)) := (zc_ BK196.out 3).trans rfl
                          have hcz52_4 : wr.cell? ⟨gb196, 4, none⟩ = some (.int .i64 ((rd_T49 l0_2 x4_2).f3.f1)) := (zc_ BK196.out 4).trans rfl
                          have hcz52_5 : wr.cell? ⟨gb196, 5, none⟩ = some (.int .i64 ((rd_T49 l0_2 x4_2).f3.f2)) := (zc_ BK196.out 5).trans rfl
                          have hcz52_6 : wr.cell? ⟨gb196, 6, none⟩ = some (.int .i64 ((rd_T49 l0_2 x4_2).f3.f3)) := (zc_ BK196.out 6).trans rfl
                          have hcz52_7 : wr.cell? ⟨gb196, 7, none⟩ = some (.int .i64 ((rd_T49 l0_2 x4_2).f4.f0)) := (zc_ BK196.out 7).trans rfl
                          have hcz52_8 : wr.cell? ⟨gb196, 8, none⟩ = some (.int .i64 ((rd_T49 l0_2 x4_2).f4.f1)) := (zc_ BK196.out 8).trans rfl
                          have hcz52_9 : wr.cell? ⟨gb196, 9, none⟩ = some (.int .i64 ((rd_T49 l0_2 x4_2).f4.f2)) := (zc_ BK196.out 9).trans rfl
                          have hcz52_10 : wr.cell? ⟨gb196, 10, none⟩ = some (.int .i64 ((rd_T49 l0_2 x4_2).f4.f3)) := (zc_ BK196.out 10).trans rfl
                          have hcz52_11 : wr.cell? ⟨gb196, 11, none⟩ = some (.int .i64 ((rd_T49 l0_2 x4_2).f5)) := (zc_ BK196.out 11).trans rfl
                          have hfz52_0 := zf_ BK196.out 0
                          have hfz52_1 := zf_ BK196.out 1
                          have hfz52_2 := zf_ BK196.out 2
                          have hfz52_3 := zf_ BK196.out 3
                          have hfz52_4 := zf_ BK196.out 4
                          have hfz52_5 := zf_ BK196.out 5
                          have hfz52_6 := zf_ BK196.out 6
                          have hfz52_7 := zf_ BK196.out 7
                          have hfz52_8 := zf_ BK196.out 8
                          have hfz52_9 := zf_ BK196.out 9
                          have hfz52_10 := zf_ BK196.out 10
                          have hfz52_11 := zf_ BK196.out 11
                          go_wp2
                          repeat (go_quiet (fail); try go_wp2)
                          go_meet
                          case rel => exact ⟨_, (decide (((rd_T49 l0_2 x4_2).f5) > 255)), (by first | rfl | (simp; done) | (simp [*]; done)), H', ⟨by have := HJ3.out; have := HK2.out; have := HJ17.out; have := HK4.out; first | omega | exact Nat.le_refl _⟩, ⟨by (with_reducible repeat (first | apply zn_ | apply zd_ | apply za_)); exact BK193.out⟩, ⟨by (with_reducible repeat (first | apply zn_ | apply zd_ | apply za_)); exact BK196.out⟩, ⟨by repeat (first | (with_reducible first | exact HB.out | apply pa_ | apply pd_ | apply p1_ | refine zs_ ?_ GE193.out | refine zs_ ?_ GE196.out) | exact HB.out)⟩⟩
                        case rest =>
                          clear HC41
                          try clear c1
                          try clear p1
                          try clear q1
                          try clear hx1
                          try clear c2
                          try clear p2
                          try clear c3
                          try clear c4
                          try clear c5
                          try clear p6
                          try clear c7
                          try clear c7b0
                          try clear c10
                          try clear c11
                          try clear c11b0
                          try clear c11b1
                          try clear c13
                          try clear c13b0
                          try clear c13b1
                          try clear c16
                          try clear c16b0
                          try clear c17
                          try clear c17b0
                          try clear p19
                          try clear q19
                          try clear hx19
                          try clear c20
                          try clear c21
                          try clear c24
                          try clear c26
                          try clear c28
                          try clear c30
                          try clear c31
                          try clear c31b0
                          try clear c32
                          try clear c32b0
                          try clear c33
                          try clear c33b0
                          try clear c34
                          try clear c34b0
                          try clear c34b1
                          try clear c35
                          try clear c38
                          try clear c42
                          try clear c42b0
                          try clear c43
                          try clear c45
                          try clear c45b0
                          try clear c46
                          try clear c48
                          try clear c48b0
                          try clear c49
                          try clear c51
                          try clear hcz12_0
                          try clear hcz12_1
                          try clear hcz12_2
                          try clear hcz14_0
                          try clear hcz14_1
                          try clear hcz14_2
                          try clear hcz15_0
                          try clear hcz15_1
                          try clear hcz15_2
                          try clear hcz19_0
                          try clear hcz19_1
                          try clear hcz19_2
                          try clear hcz22_0
                          try clear hcz22_1
                          try clear hcz22_10
                          try clear hcz22_11
                          try clear hcz22_2
                          try clear hcz22_3
                          try clear hcz22_4
                          try clear hcz22_5
                          try clear hcz22_6
                          try clear hcz22_7
                          try clear hcz22_8
                          try clear hcz22_9
                          try clear hcz27_0
                          try clear hcz27_1
                          try clear hcz27_10
                          try clear hcz27_11
                          try clear hcz27_2
                          try clear hcz27_3
                          try clear hcz27_4
                          try clear hcz27_5
                          try clear hcz27_6
                          try clear hcz27_7
                          try clear hcz27_8
                          try clear hcz27_9
                          try clear hcz29_0
                          try clear hcz29_1
                          try clear hcz29_10
                          try clear hcz29_11
                          try clear hcz29_2
                          try clear hcz29_3
                          try clear hcz29_4
                          try clear hcz29_5
                          try clear hcz29_6
                          try clear hcz29_7
                          try clear hcz29_8
                          try clear hcz29_9
                          try clear hcz36_0
                          try clear hcz36_1
                          try clear hcz36_2
                          try clear hcz37_0
                          try clear hcz37_1
                          try clear hcz37_10
                          try clear hcz37_11
                          try clear hcz37_2
                          try clear hcz37_3
                          try clear hcz37_4
                          try clear hcz37_5
                          try clear hcz37_6
                          try clear hcz37_7
                          try clear hcz37_8
                          try clear hcz37_9
                          try clear hcz39_0
                          try clear hcz39_1
                          try clear hcz39_2
                          try clear hcz40_0
                          try clear hcz40_1
                          try clear hcz40_10
                          try clear hcz40_11
                          try clear hcz40_2
                          try clear hcz40_3
                          try clear hcz40_4
                          try clear hcz40_5
                          try clear hcz40_6
                          try clear hcz40_7
                          try clear hcz40_8
                          try clear hcz40_9
                          try clear hcz44_0
                          try clear hcz44_1
                          try clear hcz44_10
                          try clear hcz44_11
                          try clear hcz44_2
                          try clear hcz44_3
                          try clear hcz44_4
                          try clear hcz44_5
                          try clear hcz44_6
                          try clear hcz44_7
                          try clear hcz44_8
                          try clear hcz44_9
                          try clear hcz47_0
                          try clear hcz47_1
                          try clear hcz47_10
                          try clear hcz47_11
                          try clear hcz47_2
                          try clear hcz47_3
                          try clear hcz47_4
                          try clear hcz47_5
                          try clear hcz47_6
                          try clear hcz47_7
                          try clear hcz47_8
                          try clear hcz47_9
                          try clear hcz50_0
                          try clear hcz50_1
                          try clear hcz50_10
                          try clear hcz50_11
                          try clear hcz50_2
                          try clear hcz50_3
                          try clear hcz50_4
                          try clear hcz50_5
                          try clear hcz50_6
                          try clear hcz50_7
                          try clear hcz50_8
                          try clear hcz50_9
                          try clear hcz52_0
                          try clear hcz52_1
                          try clear hcz52_10
                          try clear hcz52_11
                          try clear hcz52_2
                          try clear hcz52_3
                          try clear hcz52_4
                          try clear hcz52_5
                          try clear hcz52_6
                          try clear hcz52_7
                          try clear hcz52_8
                          try clear hcz52_9
                          try clear hcz6_0
                          try clear hcz6_1
                          try clear hcz6_2
                          try clear hcz8_0
                          try clear hcz8_1
                          try clear hcz8_2
                          try clear hcz9_0
                          try clear hcz9_1
                          try clear hcz9_2
                          try clear hfz12_0
                          try clear hfz12_1
                          try clear hfz12_2
                          try clear hfz14_0
                          try clear hfz14_1
                          try clear hfz14_2
                          try clear hfz15_0
                          try clear hfz15_1
                          try clear hfz15_2
                          try clear hfz19_0
                          try clear hfz19_1
                          try clear hfz19_2
                          try clear hfz22_0
                          try clear hfz22_1
                          try clear hfz22_10
                          try clear hfz22_11
                          try clear hfz22_2
                          try clear hfz22_3
                          try clear hfz22_4
                          try clear hfz22_5
                          try clear hfz22_6
                          try clear hfz22_7
                          try clear hfz22_8
                          try clear hfz22_9
                          try clear hfz27_0
                          try clear hfz27_1
                          try clear hfz27_10
                          try clear hfz27_11
                          try clear hfz27_2
                          try clear hfz27_3
                          try clear hfz27_4
                          try clear hfz27_5
                          try clear hfz27_6
                          try clear hfz27_7
                          try clear hfz27_8
                          try clear hfz27_9
                          try clear hfz29_0
                          try clear hfz29_1
                          try clear hfz29_10
                          try clear hfz29_11
                          try clear hfz29_2
                          try clear hfz29_3
                          try clear hfz29_4
                          try clear hfz29_5
                          try clear hfz29_6
                          try clear hfz29_7
                          try clear hfz29_8
                          try clear hfz29_9
                          try clear hfz36_0
                          try clear hfz36_1
                          try clear hfz36_2
                          try clear hfz37_0
                          try clear hfz37_1
                          try clear hfz37_10
                          try clear hfz37_11
                          try clear hfz37_2
                          try clear hfz37_3
                          try clear hfz37_4
                          try clear hfz37_5
                          try clear hfz37_6
                          try clear hfz37_7
                          try clear hfz37_8
                          try clear hfz37_9
                          try clear hfz39_0
                          try clear hfz39_1
                          try clear hfz39_2
                          try clear hfz40_0
                          try clear hfz40_1
                          try clear hfz40_10
                          try clear hfz40_11
                          try clear hfz40_2
                          try clear hfz40_3
                          try clear hfz40_4
                          try clear hfz40_5
                          try clear hfz40_6
                          try clear hfz40_7
                          try clear hfz40_8
                          try clear hfz40_9
                          try clear hfz44_0
                          try clear hfz44_1
                          try clear hfz44_10
                          try clear hfz44_11
                          try clear hfz44_2
                          try clear hfz44_3
                          try clear hfz44_4
                          try clear hfz44_5
                          try clear hfz44_6
                          try clear hfz44_7
                          try clear hfz44_8
                          try clear hfz44_9
                          try clear hfz47_0
                          try clear hfz47_1
                          try clear hfz47_10
                          try clear hfz47_11
                          try clear hfz47_2
                          try clear hfz47_3
                          try clear hfz47_4
                          try clear hfz47_5
                          try clear hfz47_6
                          try clear hfz47_7
                          try clear hfz47_8
                          try clear hfz47_9
                          try clear hfz50_0
                          try clear hfz50_1
                          try clear hfz50_10
                          try clear hfz50_11
                          try clear hfz50_2
                          try clear hfz50_3
                          try clear hfz50_4
                          try clear hfz50_5
                          try clear hfz50_6
                          try clear hfz50_7
                          try clear hfz50_8
                          try clear hfz50_9
                          try clear hfz52_0
                          try clear hfz52_1
                          try clear hfz52_10
                          try clear hfz52_11
                          try clear hfz52_2
                          try clear hfz52_3
                          try clear hfz52_4
                          try clear hfz52_5
                          try clear hfz52_6
                          try clear hfz52_7
                          try clear hfz52_8
                          try clear hfz52_9
                          try clear hfz6_0
                          try clear hfz6_1
                          try clear hfz6_2
                          try clear hfz8_0
                          try clear hfz8_1
                          try clear hfz8_2
                          try clear hfz9_0
                          try clear hfz9_1
                          try clear hfz9_2
                          try clear hx195_0
                          try clear hx195_1
                          try clear hx195_10
                          try clear hx195_11
                          try clear hx195_2
                          try clear hx195_3
                          try clear hx195_4
                          try clear hx195_5
                          try clear hx195_6
                          try clear hx195_7
                          try clear hx195_8
                          try clear hx195_9
                          try clear hx199_0
                          try clear hx199_1
                          try clear hx199_10
                          try clear hx199_11
                          try clear hx199_2
                          try clear hx199_3
                          try clear hx199_4
                          try clear hx199_5
                          try clear hx199_6
                          try clear hx199_7
                          try clear hx199_8
                          try clear hx199_9
                          try clear p1
                          try clear p19
                          try clear p195
                          try clear p199
                          try clear p2
                          try clear q1
                          try clear q19
                          try clear q195
                          try clear q199
                          obtain ⟨kq, x82_40, rfl, HA, HJ40, BK193, BK196, HB⟩ := hcut
                          cases kq with
                          | zero => exact absurd HA.out (by simp [usufructref13_Check.j4])
                          | succ kj40 =>
                            have H := HA.out
                            clear HA
                            simp only [usufructref13_Check.j4] at H
                            by_cases c53 : x82_40 = true
                            · subst c53
                              have H1 : (some (x4_2, 1)) = some (r1, r2) := by rw [if_pos rfl] at H; exact H
                              clear H
                              have H := H1
                              clear H1
                              simp only [Option.some.injEq, Prod.mk.injEq] at H
                              obtain ⟨rfl, rfl⟩ := H
                              go_wp2
                              repeat (go_quiet (fail); try go_wp2)
                              go_ret2
                              exact ⟨by first | rfl | (simp [errW_none, errW_some] <;> rfl) | (simp [*, errW_none, errW_some] <;> rfl), by repeat (first | (with_reducible first | exact HB.out | apply pa_ | apply pd_ | apply p1_ | refine zs_ ?_ GE193.out | refine zs_ ?_ GE196.out) | exact HB.out)⟩
                            replace c53 := Bool.eq_false_iff.mpr c53
                            subst c53
                            have H1 : ((usufructref11_Good.f ((rd_T49 l0_2 x4_2).f3.f0) ((rd_T49 l0_2 x4_2).f3.f1) ((rd_T49 l0_2 x4_2).f3.f2) ((rd_T49 l0_2 x4_2).f3.f3)).bind fun t200 => (if t200 = true then ((usufructref11_Good.f ((rd_T49 l0_2 x4_2).f4.f0) ((rd_T49 l0_2 x4_2).f4.f1) ((rd_T49 l0_2 x4_2).f4.f2) ((rd_T49 l0_2 x4_2).f4.f3)).bind fun t201 => (if t201 = true then (usufructref13_Check.l0 kj40 (wrap64 (x4_2 + 1)) a0_0 a0_1 l0_2) else (some (x4_2, 3)))) else (some (x4_2, 3)))) = some (r1, r2) := by rw [if_neg (show ¬ (false = true) by decide)] at H; exact H
                            clear H
                            have H := H1
                            clear H1
                            replace H := Option.bind_eq_some_iff.mp H
                            obtain ⟨t200, A540, H⟩ := H
                            replace H : (if t200 = true then ((usufructref11_Good.f ((rd_T49 l0_2 x4_2).f4.f0) ((rd_T49 l0_2 x4_2).f4.f1) ((rd_T49 l0_2 x4_2).f4.f2) ((rd_T49 l0_2 x4_2).f4.f3)).bind fun t201 => (if t201 = true then (usufructref13_Check.l0 kj40 (wrap64 (x4_2 + 1)) a0_0 a0_1 l0_2) else (some (x4_2, 3)))) else (some (x4_2, 3))) = some (r1, r2) := H
                            have A54 := ak_ A540
                            clear A540
                            by_cases c55 : t200 = true
                            · subst c55
                              have H1 : ((usufructref11_Good.f ((rd_T49 l0_2 x4_2).f4.f0) ((rd_T49 l0_2 x4_2).f4.f1) ((rd_T49 l0_2 x4_2).f4.f2) ((rd_T49 l0_2 x4_2).f4.f3)).bind fun t201 => (if t201 = true then (usufructref13_Check.l0 kj40 (wrap64 (x4_2 + 1)) a0_0 a0_1 l0_2) else (some (x4_2, 3)))) = some (r1, r2) := by rw [if_pos rfl] at H; exact H
                              clear H
                              have H := H1
                              clear H1
                              replace H := Option.bind_eq_some_iff.mp H
                              obtain ⟨t201, A560, H⟩ := H
                              replace H : (if t201 = true then (usufructref13_Check.l0 kj40 (wrap64 (x4_2 + 1)) a0_0 a0_1 l0_2) else (some (x4_2, 3))) = some (r1, r2) := H
                              have A56 := ak_ A560
                              clear A560
                              by_cases c57 : t201 = true
                              · subst c57
                                have H1 : (usufructref13_Check.l0 kj40 (wrap64 (x4_2 + 1)) a0_0 a0_1 l0_2) = some (r1, r2) := by rw [if_pos rfl] at H; exact H
                                clear H
                                have H := H1
                                clear H1
                                have H' := ak_ H
                                clear H
                                have hnb58 := NB196_193.out
                                have hnc58 := NB193_196.out
                                have hcz59_0 : wc.cell? ⟨gb196, 0, none⟩ = some (.string ((rd_T49 l0_2 x4_2).f0)) := (zc_ BK196.out 0).trans rfl
                                have hcz59_1 : wc.cell? ⟨gb196, 1, none⟩ = some (.string ((rd_T49 l0_2 x4_2).f1)) := (zc_ BK196.out 1).trans rfl
                                have hcz59_2 : wc.cell? ⟨gb196, 2, none⟩ = some (.int .i64 ((rd_T49 l0_2 x4_2).f2)) := (zc_ BK196.out 2).trans rfl
                                have hcz59_3 : wc.cell? ⟨gb196, 3, none⟩ = some (.int .i64 ((rd_T49 l0_2 x4_2).f3.f0)) := (zc_ BK196.out 3).trans rfl
                                have hcz59_4 : wc.cell? ⟨gb196, 4, none⟩ = some (.int .i64 ((rd_T49 l0_2 x4_2).f3.f1)) := (zc_ BK196.out 4).trans rfl
                                have hcz59_5 : wc.cell? ⟨gb196, 5, none⟩ = some (.int .i64 ((rd_T49 l0_2 x4_2).f3.f2)) := (zc_ BK196.out 5).trans rfl
                                have hcz59_6 : wc.cell? ⟨gb196, 6, none⟩ = some (.int .i64 ((rd_T49 l0_2 x4_2).f3.f3)) := (zc_ BK196.out 6).trans rfl
                                have hcz59_7 : wc.cell? ⟨gb196, 7, none⟩ = some (.int .i64 ((rd_T49 l0_2 x4_2).f4.f0)) := (zc_ BK196.out 7).trans rfl
                                have hcz59_8 : wc.cell? ⟨gb196, 8, none⟩ = some (.int .i64 ((rd_T49 l0_2 x4_2).f4.f1)) := (zc_ BK196.out 8).trans rfl
                                have hcz59_9 : wc.cell? ⟨gb196, 9, none⟩ = some (.int .i64 ((rd_T49 l0_2 x4_2).f4.f2)) := (zc_ BK196.out 9).trans rfl
                                have hcz59_10 : wc.cell? ⟨gb196, 10, none⟩ = some (.int .i64 ((rd_T49 l0_2 x4_2).f4.f3)) := (zc_ BK196.out 10).trans rfl
                                have hcz59_11 : wc.cell? ⟨gb196, 11, none⟩ = some (.int .i64 ((rd_T49 l0_2 x4_2).f5)) := (zc_ BK196.out 11).trans rfl
                                have hfz59_0 := zf_ BK196.out 0
                                have hfz59_1 := zf_ BK196.out 1
                                have hfz59_2 := zf_ BK196.out 2
                                have hfz59_3 := zf_ BK196.out 3
                                have hfz59_4 := zf_ BK196.out 4
                                have hfz59_5 := zf_ BK196.out 5
                                have hfz59_6 := zf_ BK196.out 6
                                have hfz59_7 := zf_ BK196.out 7
                                have hfz59_8 := zf_ BK196.out 8
                                have hfz59_9 := zf_ BK196.out 9
                                have hfz59_10 := zf_ BK196.out 10
                                have hfz59_11 := zf_ BK196.out 11
                                go_wp2_with (first | (go_at_call 36; (with_reducible refine (usufructref11_Good.calls ((rd_T49 l0_2 x4_2).f3.f0) ((rd_T49 l0_2 x4_2).f3.f1) ((rd_T49 l0_2 x4_2).f3.f2) ((rd_T49 l0_2 x4_2).f3.f3) true _ A54.out).mono ?_); rintro e w60 ⟨rfl, hb⟩; have n0_ := ak_ (blk_below (g := gb193) (o := .cells #[.string a0_0, .int .i64 a0_1, .slice (some ad195) l0_2.length c0_2] 28 (0, 0)) (by (with_reducible repeat (first | apply zn_ | apply zd_ | apply za_)); exact BK193.out) hb); have n1_ := ak_ (blk_below (g := gb196) (o := .cells #[.string ((rd_T49 l0_2 x4_2).f0), .string ((rd_T49 l0_2 x4_2).f1), .int .i64 ((rd_T49 l0_2 x4_2).f2), .int .i64 ((rd_T49 l0_2 x4_2).f3.f0), .int .i64 ((rd_T49 l0_2 x4_2).f3.f1), .int .i64 ((rd_T49 l0_2 x4_2).f3.f2), .int .i64 ((rd_T49 l0_2 x4_2).f3.f3), .int .i64 ((rd_T49 l0_2 x4_2).f4.f0), .int .i64 ((rd_T49 l0_2 x4_2).f4.f1), .int .i64 ((rd_T49 l0_2 x4_2).f4.f2), .int .i64 ((rd_T49 l0_2 x4_2).f4.f3), .int .i64 ((rd_T49 l0_2 x4_2).f5)] 49 (0, 0)) (by (with_reducible repeat (first | apply zn_ | apply zd_ | apply za_)); exact BK196.out) hb); have n2_ := ak_ (ps_ (by repeat (first | (with_reducible first | exact HB.out | apply pa_ | apply pd_ | apply p1_ | refine zs_ ?_ GE193.out | refine zs_ ?_ GE196.out) | exact HB.out)) hb); clear BK193; clear BK196; clear HB; have BK193 := n0_; have BK196 := n1_; have HB := n2_; clear n0_ n1_ n2_; (try clear hb hk hi); have hcz61_0 : w60.cell? ⟨gb196, 0, none⟩ = some (.string ((rd_T49 l0_2 x4_2).f0)) := (zc_ BK196.out 0).trans rfl; have hcz61_1 : w60.cell? ⟨gb196, 1, none⟩ = some (.string ((rd_T49 l0_2 x4_2).f1)) := (zc_ BK196.out 1).trans rfl; have hcz61_2 : w60.cell? ⟨gb196, 2, none⟩ = some (.int .i64 ((rd_T49 l0_2 x4_2).f2)) := (zc_ BK196.out 2).trans rfl; have hcz61_3 : w60.cell? ⟨gb196, 3, none⟩ = some (.int .i64 ((rd_T49 l0_2 x4_2).f3.f0)) := (zc_ BK196.out 3).trans rfl; have hcz61_4 : w60.cell? ⟨gb196, 4, none⟩ = some (.int .i64 ((rd_T49 l0_2 x4_2).f3.f1)) := (zc_ BK196.out 4).trans rfl; have hcz61_5 : w60.cell? ⟨gb196, 5, none⟩ = some (.int .i64 ((rd_T49 l0_2 x4_2).f3.f2)) := (zc_ BK196.out 5).trans rfl; have hcz61_6 : w60.cell? ⟨gb196, 6, none⟩ = some (.int .i64 ((rd_T49 l0_2 x4_2).f3.f3)) := (zc_ BK196.out 6).trans rfl; have hcz61_7 : w60.cell? ⟨gb196, 7, none⟩ = some (.int .i64 ((rd_T49 l0_2 x4_2).f4.f0)) := (zc_ BK196.out 7).trans rfl; have hcz61_8 : w60.cell? ⟨gb196, 8, none⟩ = some (.int .i64 ((rd_T49 l0_2 x4_2).f4.f1)) := (zc_ BK196.out 8).trans rfl; have hcz61_9 : w60.cell? ⟨gb196, 9, none⟩ = some (.int .i64 ((rd_T49 l0_2 x4_2).f4.f2)) := (zc_ BK196.out 9).trans rfl; have hcz61_10 : w60.cell? ⟨gb196, 10, none⟩ = some (.int .i64 ((rd_T49 l0_2 x4_2).f4.f3)) := (zc_ BK196.out 10).trans rfl; have hcz61_11 : w60.cell? ⟨gb196, 11, none⟩ = some (.int .i64 ((rd_T49 l0_2 x4_2).f5)) := (zc_ BK196.out 11).trans rfl; have hfz61_0 := zf_ BK196.out 0; have hfz61_1 := zf_ BK196.out 1; have hfz61_2 := zf_ BK196.out 2; have hfz61_3 := zf_ BK196.out 3; have hfz61_4 := zf_ BK196.out 4; have hfz61_5 := zf_ BK196.out 5; have hfz61_6 := zf_ BK196.out 6; have hfz61_7 := zf_ BK196.out 7; have hfz61_8 := zf_ BK196.out 8; have hfz61_9 := zf_ BK196.out 9; have hfz61_10 := zf_ BK196.out 10; have hfz61_11 := zf_ BK196.out 11) | (go_at_call 36; (with_reducible refine (usufructref11_Good.calls ((rd_T49 l0_2 x4_2).f4.f0) ((rd_T49 l0_2 x4_2).f4.f1) ((rd_T49 l0_2 x4_2).f4.f2) ((rd_T49 l0_2 x4_2).f4.f3) true _ A56.out).mono ?_); rintro e w62 ⟨rfl, hb⟩; have n0_ := ak_ (blk_below (g := gb193) (o := .cells #[.string a0_0, .int .i64 a0_1, .slice (some ad195) l0_2.length c0_2] 28 (0, 0)) (by (with_reducible repeat (first | apply zn_ | apply zd_ | apply za_)); exact BK193.out) hb); have n1_ := ak_ (blk_below (g := gb196) (o := .cells #[.string ((rd_T49 l0_2 x4_2).f0), .string ((rd_T49 l0_2 x4_2).f1), .int .i64 ((rd_T49 l0_2 x4_2).f2), .int .i64 ((rd_T49 l0_2 x4_2).f3.f0), .int .i64 ((rd_T49 l0_2 x4_2).f3.f1), .int .i64 ((rd_T49 l0_2 x4_2).f3.f2), .int .i64 ((rd_T49 l0_2 x4_2).f3.f3), .int .i64 ((rd_T49 l0_2 x4_2).f4.f0), .int .i64 ((rd_T49 l0_2 x4_2).f4.f1), .int .i64 ((rd_T49 l0_2 x4_2).f4.f2), .int .i64 ((rd_T49 l0_2 x4_2).f4.f3), .int .i64 ((rd_T49 l0_2 x4_2).f5)] 49 (0, 0)) (by (with_reducible repeat (first | apply zn_ | apply zd_ | apply za_)); exact BK196.out) hb); have n2_ := ak_ (ps_ (by repeat (first | (with_reducible first | exact HB.out | apply pa_ | apply pd_ | apply p1_ | refine zs_ ?_ GE193.out | refine zs_ ?_ GE196.out) | exact HB.out)) hb); clear BK193; clear BK196; clear HB; have BK193 := n0_; have BK196 := n1_; have HB := n2_; clear n0_ n1_ n2_; (try clear hb hk hi)))
                                repeat (go_quiet (first | (go_at_call 36; (with_reducible refine (usufructref11_Good.calls ((rd_T49 l0_2 x4_2).f3.f0) ((rd_T49 l0_2 x4_2).f3.f1) ((rd_T49 l0_2 x4_2).f3.f2) ((rd_T49 l0_2 x4_2).f3.f3) true _ A54.out).mono ?_); rintro e w60 ⟨rfl, hb⟩; have n0_ := ak_ (blk_below (g := gb193) (o := .cells #[.string a0_0, .int .i64 a0_1, .slice (some ad195) l0_2.length c0_2] 28 (0, 0)) (by (with_reducible repeat (first | apply zn_ | apply zd_ | apply za_)); exact BK193.out) hb); have n1_ := ak_ (blk_below (g := gb196) (o := .cells #[.string ((rd_T49 l0_2 x4_2).f0), .string ((rd_T49 l0_2 x4_2).f1), .int .i64 ((rd_T49 l0_2 x4_2).f2), .int .i64 ((rd_T49 l0_2 x4_2).f3.f0), .int .i64 ((rd_T49 l0_2 x4_2).f3.f1), .int .i64 ((rd_T49 l0_2 x4_2).f3.f2), .int .i64 ((rd_T49 l0_2 x4_2).f3.f3), .int .i64 ((rd_T49 l0_2 x4_2).f4.f0), .int .i64 ((rd_T49 l0_2 x4_2).f4.f1), .int .i64 ((rd_T49 l0_2 x4_2).f4.f2), .int .i64 ((rd_T49 l0_2 x4_2).f4.f3), .int .i64 ((rd_T49 l0_2 x4_2).f5)] 49 (0, 0)) (by (with_reducible repeat (first | apply zn_ | apply zd_ | apply za_)); exact BK196.out) hb); have n2_ := ak_ (ps_ (by repeat (first | (with_reducible first | exact HB.out | apply pa_ | apply pd_ | apply p1_ | refine zs_ ?_ GE193.out | refine zs_ ?_ GE196.out) | exact HB.out)) hb); clear BK193; clear BK196; clear HB; have BK193 := n0_; have BK196 := n1_; have HB := n2_; clear n0_ n1_ n2_; (try clear hb hk hi); have hcz61_0 : w60.cell? ⟨gb196, 0, none⟩ = some (.string ((rd_T49 l0_2 x4_2).f0)) := (zc_ BK196.out 0).trans rfl; have hcz61_1 : w60.cell? ⟨gb196, 1, none⟩ = some (.string ((rd_T49 l0_2 x4_2).f1)) := (zc_ BK196.out 1).trans rfl; have hcz61_2 : w60.cell? ⟨gb196, 2, none⟩ = some (.int .i64 ((rd_T49 l0_2 x4_2).f2)) := (zc_ BK196.out 2).trans rfl; have hcz61_3 : w60.cell? ⟨gb196, 3, none⟩ = some (.int .i64 ((rd_T49 l0_2 x4_2).f3.f0)) := (zc_ BK196.out 3).trans rfl; have hcz61_4 : w60.cell? ⟨gb196, 4, none⟩ = some (.int .i64 ((rd_T49 l0_2 x4_2).f3.f1)) := (zc_ BK196.out 4).trans rfl; have hcz61_5 : w60.cell? ⟨gb196, 5, none⟩ = some (.int .i64 ((rd_T49 l0_2 x4_2).f3.f2)) := (zc_ BK196.out 5).trans rfl; have hcz61_6 : w60.cell? ⟨gb196, 6, none⟩ = some (.int .i64 ((rd_T49 l0_2 x4_2).f3.f3)) := (zc_ BK196.out 6).trans rfl; have hcz61_7 : w60.cell? ⟨gb196, 7, none⟩ = some (.int .i64 ((rd_T49 l0_2 x4_2).f4.f0)) := (zc_ BK196.out 7).trans rfl; have hcz61_8 : w60.cell? ⟨gb196, 8, none⟩ = some (.int .i64 ((rd_T49 l0_2 x4_2).f4.f1)) := (zc_ BK196.out 8).trans rfl; have hcz61_9 : w60.cell? ⟨gb196, 9, none⟩ = some (.int .i64 ((rd_T49 l0_2 x4_2).f4.f2)) := (zc_ BK196.out 9).trans rfl; have hcz61_10 : w60.cell? ⟨gb196, 10, none⟩ = some (.int .i64 ((rd_T49 l0_2 x4_2).f4.f3)) := (zc_ BK196.out 10).trans rfl; have hcz61_11 : w60.cell? ⟨gb196, 11, none⟩ = some (.int .i64 ((rd_T49 l0_2 x4_2).f5)) := (zc_ BK196.out 11).trans rfl; have hfz61_0 := zf_ BK196.out 0; have hfz61_1 := zf_ BK196.out 1; have hfz61_2 := zf_ BK196.out 2; have hfz61_3 := zf_ BK196.out 3; have hfz61_4 := zf_ BK196.out 4; have hfz61_5 := zf_ BK196.out 5; have hfz61_6 := zf_ BK196.out 6; have hfz61_7 := zf_ BK196.out 7; have hfz61_8 := zf_ BK196.out 8; have hfz61_9 := zf_ BK196.out 9; have hfz61_10 := zf_ BK196.out 10; have hfz61_11 := zf_ BK196.out 11) | (go_at_call 36; (with_reducible refine (usufructref11_Good.calls ((rd_T49 l0_2 x4_2).f4.f0) ((rd_T49 l0_2 x4_2).f4.f1) ((rd_T49 l0_2 x4_2).f4.f2) ((rd_T49 l0_2 x4_2).f4.f3) true _ A56.out).mono ?_); rintro e w62 ⟨rfl, hb⟩; have n0_ := ak_ (blk_below (g := gb193) (o := .cells #[.string a0_0, .int .i64 a0_1, .slice (some ad195) l0_2.length c0_2] 28 (0, 0)) (by (with_reducible repeat (first | apply zn_ | apply zd_ | apply za_)); exact BK193.out) hb); have n1_ := ak_ (blk_below (g := gb196) (o := .cells #[.string ((rd_T49 l0_2 x4_2).f0), .string ((rd_T49 l0_2 x4_2).f1), .int .i64 ((rd_T49 l0_2 x4_2).f2), .int .i64 ((rd_T49 l0_2 x4_2).f3.f0), .int .i64 ((rd_T49 l0_2 x4_2).f3.f1), .int .i64 ((rd_T49 l0_2 x4_2).f3.f2), .int .i64 ((rd_T49 l0_2 x4_2).f3.f3), .int .i64 ((rd_T49 l0_2 x4_2).f4.f0), .int .i64 ((rd_T49 l0_2 x4_2).f4.f1), .int .i64 ((rd_T49 l0_2 x4_2).f4.f2), .int .i64 ((rd_T49 l0_2 x4_2).f4.f3), .int .i64 ((rd_T49 l0_2 x4_2).f5)] 49 (0, 0)) (by (with_reducible repeat (first | apply zn_ | apply zd_ | apply za_)); exact BK196.out) hb); have n2_ := ak_ (ps_ (by repeat (first | (with_reducible first | exact HB.out | apply pa_ | apply pd_ | apply p1_ | refine zs_ ?_ GE193.out | refine zs_ ?_ GE196.out) | exact HB.out)) hb); clear BK193; clear BK196; clear HB; have BK193 := n0_; have BK196 := n1_; have HB := n2_; clear n0_ n1_ n2_; (try clear hb hk hi))); try go_wp2_with (first | (go_at_call 36; (with_reducible refine (usufructref11_Good.calls ((rd_T49 l0_2 x4_2).f3.f0) ((rd_T49 l0_2 x4_2).f3.f1) ((rd_T49 l0_2 x4_2).f3.f2) ((rd_T49 l0_2 x4_2).f3.f3) true _ A54.out).mono ?_); rintro e w60 ⟨rfl, hb⟩; have n0_ := ak_ (blk_below (g := gb193) (o := .cells #[.string a0_0, .int .i64 a0_1, .slice (some ad195) l0_2.length c0_2] 28 (0, 0)) (by (with_reducible repeat (first | apply zn_ | apply zd_ | apply za_)); exact BK193.out) hb); have n1_ := ak_ (blk_below (g := gb196) (o := .cells #[.string ((rd_T49 l0_2 x4_2).f0), .string ((rd_T49 l0_2 x4_2).f1), .int .i64 ((rd_T49 l0_2 x4_2).f2), .int .i64 ((rd_T49 l0_2 x4_2).f3.f0), .int .i64 ((rd_T49 l0_2 x4_2).f3.f1), .int .i64 ((rd_T49 l0_2 x4_2).f3.f2), .int .i64 ((rd_T49 l0_2 x4_2).f3.f3), .int .i64 ((rd_T49 l0_2 x4_2).f4.f0), .int .i64 ((rd_T49 l0_2 x4_2).f4.f1), .int .i64 ((rd_T49 l0_2 x4_2).f4.f2), .int .i64 ((rd_T49 l0_2 x4_2).f4.f3), .int .i64 ((rd_T49 l0_2 x4_2).f5)] 49 (0, 0)) (by (with_reducible repeat (first | apply zn_ | apply zd_ | apply za_)); exact BK196.out) hb); have n2_ := ak_ (ps_ (by repeat (first | (with_reducible first | exact HB.out | apply pa_ | apply pd_ | apply p1_ | refine zs_ ?_ GE193.out | refine zs_ ?_ GE196.out) | exact HB.out)) hb); clear BK193; clear BK196; clear HB; have BK193 := n0_; have BK196 := n1_; have HB := n2_; clear n0_ n1_ n2_; (try clear hb hk hi); have hcz61_0 : w60.cell? ⟨gb196, 0, none⟩ = some (.string ((rd_T49 l0_2 x4_2).f0)) := (zc_ BK196.out 0).trans rfl; have hcz61_1 : w60.cell? ⟨gb196, 1, none⟩ = some (.string ((rd_T49 l0_2 x4_2).f1)) := (zc_ BK196.out 1).trans rfl; have hcz61_2 : w60.cell? ⟨gb196, 2, none⟩ = some (.int .i64 ((rd_T49 l0_2 x4_2).f2)) := (zc_ BK196.out 2).trans rfl; have hcz61_3 : w60.cell? ⟨gb196, 3, none⟩ = some (.int .i64 ((rd_T49 l0_2 x4_2).f3.f0)) := (zc_ BK196.out 3).trans rfl; have hcz61_4 : w60.cell? ⟨gb196, 4, none⟩ = some (.int .i64 ((rd_T49 l0_2 x4_2).f3.f1)) := (zc_ BK196.out 4).trans rfl; have hcz61_5 : w60.cell? ⟨gb196, 5, none⟩ = some (.int .i64 ((rd_T49 l0_2 x4_2).f3.f2)) := (zc_ BK196.out 5).trans rfl; have hcz61_6 : w60.cell? ⟨gb196, 6, none⟩ = some (.int .i64 ((rd_T49 l0_2 x4_2).f3.f3)) := (zc_ BK196.out 6).trans rfl; have hcz61_7 : w60.cell? ⟨gb196, 7, none⟩ = some (.int .i64 ((rd_T49 l0_2 x4_2).f4.f0)) := (zc_ BK196.out 7).trans rfl; have hcz61_8 : w60.cell? ⟨gb196, 8, none⟩ = some (.int .i64 ((rd_T49 l0_2 x4_2).f4.f1)) := (zc_ BK196.out 8).trans rfl; have hcz61_9 : w60.cell? ⟨gb196, 9, none⟩ = some (.int .i64 ((rd_T49 l0_2 x4_2).f4.f2)) := (zc_ BK196.out 9).trans rfl; have hcz61_10 : w60.cell? ⟨gb196, 10, none⟩ = some (.int .i64 ((rd_T49 l0_2 x4_2).f4.f3)) := (zc_ BK196.out 10).trans rfl; have hcz61_11 : w60.cell? ⟨gb196, 11, none⟩ = some (.int .i64 ((rd_T49 l0_2 x4_2).f5)) := (zc_ BK196.out 11).trans rfl; have hfz61_0 := zf_ BK196.out 0; have hfz61_1 := zf_ BK196.out 1; have hfz61_2 := zf_ BK196.out 2; have hfz61_3 := zf_ BK196.out 3; have hfz61_4 := zf_ BK196.out 4; have hfz61_5 := zf_ BK196.out 5; have hfz61_6 := zf_ BK196.out 6; have hfz61_7 := zf_ BK196.out 7; have hfz61_8 := zf_ BK196.out 8; have hfz61_9 := zf_ BK196.out 9; have hfz61_10 := zf_ BK196.out 10; have hfz61_11 := zf_ BK196.out 11) | (go_at_call 36; (with_reducible refine (usufructref11_Good.calls ((rd_T49 l0_2 x4_2).f4.f0) ((rd_T49 l0_2 x4_2).f4.f1) ((rd_T49 l0_2 x4_2).f4.f2) ((rd_T49 l0_2 x4_2).f4.f3) true _ A56.out).mono ?_); rintro e w62 ⟨rfl, hb⟩; have n0_ := ak_ (blk_below (g := gb193) (o := .cells #[.string a0_0, .int .i64 a0_1, .slice (some ad195) l0_2.length c0_2] 28 (0, 0)) (by (with_reducible repeat (first | apply zn_ | apply zd_ | apply za_)); exact BK193.out) hb); have n1_ := ak_ (blk_below (g := gb196) (o := .cells #[.string ((rd_T49 l0_2 x4_2).f0), .string ((rd_T49 l0_2 x4_2).f1), .int .i64 ((rd_T49 l0_2 x4_2).f2), .int .i64 ((rd_T49 l0_2 x4_2).f3.f0), .int .i64 ((rd_T49 l0_2 x4_2).f3.f1), .int .i64 ((rd_T49 l0_2 x4_2).f3.f2), .int .i64 ((rd_T49 l0_2 x4_2).f3.f3), .int .i64 ((rd_T49 l0_2 x4_2).f4.f0), .int .i64 ((rd_T49 l0_2 x4_2).f4.f1), .int .i64 ((rd_T49 l0_2 x4_2).f4.f2), .int .i64 ((rd_T49 l0_2 x4_2).f4.f3), .int .i64 ((rd_T49 l0_2 x4_2).f5)] 49 (0, 0)) (by (with_reducible repeat (first | apply zn_ | apply zd_ | apply za_)); exact BK196.out) hb); have n2_ := ak_ (ps_ (by repeat (first | (with_reducible first | exact HB.out | apply pa_ | apply pd_ | apply p1_ | refine zs_ ?_ GE193.out | refine zs_ ?_ GE196.out) | exact HB.out)) hb); clear BK193; clear BK196; clear HB; have BK193 := n0_; have BK196 := n1_; have HB := n2_; clear n0_ n1_ n2_; (try clear hb hk hi))))
                                go_roundg kj40
                                case measure => have := HJ3.out; have := HK2.out; have := HJ17.out; have := HK4.out; have := HJ40.out; omega
                                case rel => exact ⟨(wrap64 (x4_2 + 1)), (by first | rfl | (simp; done) | (simp [*]; done)), H', ⟨by have := HJ3.out; have := HK2.out; have := HJ17.out; have := HK4.out; have := HJ40.out; omega⟩, ⟨by (with_reducible repeat (first | apply zn_ | apply zd_ | apply za_)); exact BK193.out⟩, ⟨by repeat (first | (with_reducible first | exact HB.out | apply pa_ | apply pd_ | apply p1_ | refine zs_ ?_ GE193.out | refine zs_ ?_ GE196.out) | exact HB.out)⟩⟩
                              replace c57 := Bool.eq_false_iff.mpr c57
                              subst c57
                              have H1 : (some (x4_2, 3)) = some (r1, r2) := by rw [if_neg (show ¬ (false = true) by decide)] at H; exact H
                              clear H
                              have H := H1
                              clear H1
                              simp only [Option.some.injEq, Prod.mk.injEq] at H
                              obtain ⟨rfl, rfl⟩ := H
                              have hnb63 := NB196_193.out
                              have hnc63 := NB193_196.out
                              have hcz64_0 : wc.cell? ⟨gb196, 0, none⟩ = some (.string ((rd_T49 l0_2 x4_2).f0)) := (zc_ BK196.out 0).trans rfl
                              have hcz64_1 : wc.cell? ⟨gb196, 1, none⟩ = some (.string ((rd_T49 l0_2 x4_2).f1)) := (zc_ BK196.out 1).trans rfl
                              have hcz64_2 : wc.cell? ⟨gb196, 2, none⟩ = some (.int .i64 ((rd_T49 l0_2 x4_2).f2)) := (zc_ BK196.out 2).trans rfl
                              have hcz64_3 : wc.cell? ⟨gb196, 3, none⟩ = some (.int .i64 ((rd_T49 l0_2 x4_2).f3.f0)) := (zc_ BK196.out 3).trans rfl
                              have hcz64_4 : wc.cell? ⟨gb196, 4, none⟩ = some (.int .i64 ((rd_T49 l0_2 x4_2).f3.f1)) := (zc_ BK196.out 4).trans rfl
                              have hcz64_5 : wc.cell? ⟨gb196, 5, none⟩ = some (.int .i64 ((rd_T49 l0_2 x4_2).f3.f2)) := (zc_ BK196.out 5).trans rfl
                              have hcz64_6 : wc.cell? ⟨gb196, 6, none⟩ = some (.int .i64 ((rd_T49 l0_2 x4_2).f3.f3)) := (zc_ BK196.out 6).trans rfl
                              have hcz64_7 : wc.cell? ⟨gb196, 7, none⟩ = some (.int .i64 ((rd_T49 l0_2 x4_2).f4.f0)) := (zc_ BK196.out 7).trans rfl
                              have hcz64_8 : wc.cell? ⟨gb196, 8, none⟩ = some (.int .i64 ((rd_T49 l0_2 x4_2).f4.f1)) := (zc_ BK196.out 8).trans rfl
                              have hcz64_9 : wc.cell? ⟨gb196, 9, none⟩ = some (.int .i64 ((rd_T49 l0_2 x4_2).f4.f2)) := (zc_ BK196.out 9).trans rfl
                              have hcz64_10 : wc.cell? ⟨gb196, 10, none⟩ = some (.int .i64 ((rd_T49 l0_2 x4_2).f4.f3)) := (zc_ BK196.out 10).trans rfl
                              have hcz64_11 : wc.cell? ⟨gb196, 11, none⟩ = some (.int .i64 ((rd_T49 l0_2 x4_2).f5)) := (zc_ BK196.out 11).trans rfl
                              have hfz64_0 := zf_ BK196.out 0
                              have hfz64_1 := zf_ BK196.out 1
                              have hfz64_2 := zf_ BK196.out 2
                              have hfz64_3 := zf_ BK196.out 3
                              have hfz64_4 := zf_ BK196.out 4
                              have hfz64_5 := zf_ BK196.out 5
                              have hfz64_6 := zf_ BK196.out 6
                              have hfz64_7 := zf_ BK196.out 7
                              have hfz64_8 := zf_ BK196.out 8
                              have hfz64_9 := zf_ BK196.out 9
                              have hfz64_10 := zf_ BK196.out 10
                              have hfz64_11 := zf_ BK196.out 11
                              go_wp2_with (first | (go_at_call 36; (with_reducible refine (usufructref11_Good.calls ((rd_T49 l0_2 x4_2).f3.f0) ((rd_T49 l0_2 x4_2).f3.f1) ((rd_T49 l0_2 x4_2).f3.f2) ((rd_T49 l0_2 x4_2).f3.f3) true _ A54.out).mono ?_); rintro e w65 ⟨rfl, hb⟩; have n0_ := ak_ (blk_below (g := gb193) (o := .cells #[.string a0_0, .int .i64 a0_1, .slice (some ad195) l0_2.length c0_2] 28 (0, 0)) (by (with_reducible repeat (first | apply zn_ | apply zd_ | apply za_)); exact BK193.out) hb); have n1_ := ak_ (blk_below (g := gb196) (o := .cells #[.string ((rd_T49 l0_2 x4_2).f0), .string ((rd_T49 l0_2 x4_2).f1), .int .i64 ((rd_T49 l0_2 x4_2).f2), .int .i64 ((rd_T49 l0_2 x4_2).f3.f0), .int .i64 ((rd_T49 l0_2 x4_2).f3.f1), .int .i64 ((rd_T49 l0_2 x4_2).f3.f2), .int .i64 ((rd_T49 l0_2 x4_2).f3.f3), .int .i64 ((rd_T49 l0_2 x4_2).f4.f0), .int .i64 ((rd_T49 l0_2 x4_2).f4.f1), .int .i64 ((rd_T49 l0_2 x4_2).f4.f2), .int .i64 ((rd_T49 l0_2 x4_2).f4.f3), .int .i64 ((rd_T49 l0_2 x4_2).f5)] 49 (0, 0)) (by (with_reducible repeat (first | apply zn_ | apply zd_ | apply za_)); exact BK196.out) hb); have n2_ := ak_ (ps_ (by repeat (first | (with_reducible first | exact HB.out | apply pa_ | apply pd_ | apply p1_ | refine zs_ ?_ GE193.out | refine zs_ ?_ GE196.out) | exact HB.out)) hb); clear BK193; clear BK196; clear HB; have BK193 := n0_; have BK196 := n1_; have HB := n2_; clear n0_ n1_ n2_; (try clear hb hk hi); have hcz66_0 : w65.cell? ⟨gb196, 0, none⟩ = some (.string ((rd_T49 l0_2 x4_2).f0)) := (zc_ BK196.out 0).trans rfl; have hcz66_1 : w65.cell? ⟨gb196, 1, none⟩ = some (.string ((rd_T49 l0_2 x4_2).f1)) := (zc_ BK196.out 1).trans rfl; have hcz66_2 : w65.cell? ⟨gb196, 2, none⟩ = some (.int .i64 ((rd_T49 l0_2 x4_2).f2)) := (zc_ BK196.out 2).trans rfl; have hcz66_3 : w65.cell? ⟨gb196, 3, none⟩ = some (.int .i64 ((rd_T49 l0_2 x4_2).f3.f0)) := (zc_ BK196.out 3).trans rfl; have hcz66_4 : w65.cell? ⟨gb196, 4, none⟩ = some (.int .i64 ((rd_T49 l0_2 x4_2).f3.f1)) := (zc_ BK196.out 4).trans rfl; have hcz66_5 : w65.cell? ⟨gb196, 5, none⟩ = some (.int .i64 ((rd_T49 l0_2 x4_2).f3.f2)) := (zc_ BK196.out 5).trans rfl; have hcz66_6 : w65.cell? ⟨gb196, 6, none⟩ = some (.int .i64 ((rd_T49 l0_2 x4_2).f3.f3)) := (zc_ BK196.out 6).trans rfl; have hcz66_7 : w65.cell? ⟨gb196, 7, none⟩ = some (.int .i64 ((rd_T49 l0_2 x4_2).f4.f0)) := (zc_ BK196.out 7).trans rfl; have hcz66_8 : w65.cell? ⟨gb196, 8, none⟩ = some (.int .i64 ((rd_T49 l0_2 x4_2).f4.f1)) := (zc_ BK196.out 8).trans rfl; have hcz66_9 : w65.cell? ⟨gb196, 9, none⟩ = some (.int .i64 ((rd_T49 l0_2 x4_2).f4.f2)) := (zc_ BK196.out 9).trans rfl; have hcz66_10 : w65.cell? ⟨gb196, 10, none⟩ = some (.int .i64 ((rd_T49 l0_2 x4_2).f4.f3)) := (zc_ BK196.out 10).trans rfl; have hcz66_11 : w65.cell? ⟨gb196, 11, none⟩ = some (.int .i64 ((rd_T49 l0_2 x4_2).f5)) := (zc_ BK196.out 11).trans rfl; have hfz66_0 := zf_ BK196.out 0; have hfz66_1 := zf_ BK196.out 1; have hfz66_2 := zf_ BK196.out 2; have hfz66_3 := zf_ BK196.out 3; have hfz66_4 := zf_ BK196.out 4; have hfz66_5 := zf_ BK196.out 5; have hfz66_6 := zf_ BK196.out 6; have hfz66_7 := zf_ BK196.out 7; have hfz66_8 := zf_ BK196.out 8; have hfz66_9 := zf_ BK196.out 9; have hfz66_10 := zf_ BK196.out 10; have hfz66_11 := zf_ BK196.out 11) | (go_at_call 36; (with_reducible refine (usufructref11_Good.calls ((rd_T49 l0_2 x4_2).f4.f0) ((rd_T49 l0_2 x4_2).f4.f1) ((rd_T49 l0_2 x4_2).f4.f2) ((rd_T49 l0_2 x4_2).f4.f3) false _ A56.out).mono ?_); rintro e w67 ⟨rfl, hb⟩; have n0_ := ak_ (blk_below (g := gb193) (o := .cells #[.string a0_0, .int .i64 a0_1, .slice (some ad195) l0_2.length c0_2] 28 (0, 0)) (by (with_reducible repeat (first | apply zn_ | apply zd_ | apply za_)); exact BK193.out) hb); have n1_ := ak_ (blk_below (g := gb196) (o := .cells #[.string ((rd_T49 l0_2 x4_2).f0), .string ((rd_T49 l0_2 x4_2).f1), .int .i64 ((rd_T49 l0_2 x4_2).f2), .int .i64 ((rd_T49 l0_2 x4_2).f3.f0), .int .i64 ((rd_T49 l0_2 x4_2).f3.f1), .int .i64 ((rd_T49 l0_2 x4_2).f3.f2), .int .i64 ((rd_T49 l0_2 x4_2).f3.f3), .int .i64 ((rd_T49 l0_2 x4_2).f4.f0), .int .i64 ((rd_T49 l0_2 x4_2).f4.f1), .int .i64 ((rd_T49 l0_2 x4_2).f4.f2), .int .i64 ((rd_T49 l0_2 x4_2).f4.f3), .int .i64 ((rd_T49 l0_2 x4_2).f5)] 49 (0, 0)) (by (with_reducible repeat (first | apply zn_ | apply zd_ | apply za_)); exact BK196.out) hb); have n2_ := ak_ (ps_ (by repeat (first | (with_reducible first | exact HB.out | apply pa_ | apply pd_ | apply p1_ | refine zs_ ?_ GE193.out | refine zs_ ?_ GE196.out) | exact HB.out)) hb); clear BK193; clear BK196; clear HB; have BK193 := n0_; have BK196 := n1_; have HB := n2_; clear n0_ n1_ n2_; (try clear hb hk hi)))
                              repeat (go_quiet (first | (go_at_call 36; (with_reducible refine (usufructref11_Good.calls ((rd_T49 l0_2 x4_2).f3.f0) ((rd_T49 l0_2 x4_2).f3.f1) ((rd_T49 l0_2 x4_2).f3.f2) ((rd_T49 l0_2 x4_2).f3.f3) true _ A54.out).mono ?_); rintro e w65 ⟨rfl, hb⟩; have n0_ := ak_ (blk_below (g := gb193) (o := .cells #[.string a0_0, .int .i64 a0_1, .slice (some ad195) l0_2.length c0_2] 28 (0, 0)) (by (with_reducible repeat (first | apply zn_ | apply zd_ | apply za_)); exact BK193.out) hb); have n1_ := ak_ (blk_below (g := gb196) (o := .cells #[.string ((rd_T49 l0_2 x4_2).f0), .string ((rd_T49 l0_2 x4_2).f1), .int .i64 ((rd_T49 l0_2 x4_2).f2), .int .i64 ((rd_T49 l0_2 x4_2).f3.f0), .int .i64 ((rd_T49 l0_2 x4_2).f3.f1), .int .i64 ((rd_T49 l0_2 x4_2).f3.f2), .int .i64 ((rd_T49 l0_2 x4_2).f3.f3), .int .i64 ((rd_T49 l0_2 x4_2).f4.f0), .int .i64 ((rd_T49 l0_2 x4_2).f4.f1), .int .i64 ((rd_T49 l0_2 x4_2).f4.f2), .int .i64 ((rd_T49 l0_2 x4_2).f4.f3), .int .i64 ((rd_T49 l0_2 x4_2).f5)] 49 (0, 0)) (by (with_reducible repeat (first | apply zn_ | apply zd_ | apply za_)); exact BK196.out) hb); have n2_ := ak_ (ps_ (by repeat (first | (with_reducible first | exact HB.out | apply pa_ | apply pd_ | apply p1_ | refine zs_ ?_ GE193.out | refine zs_ ?_ GE196.out) | exact HB.out)) hb); clear BK193; clear BK196; clear HB; have BK193 := n0_; have BK196 := n1_; have HB := n2_; clear n0_ n1_ n2_; (try clear hb hk hi); have hcz66_0 : w65.cell? ⟨gb196, 0, none⟩ = some (.string ((rd_T49 l0_2 x4_2).f0)) := (zc_ BK196.out 0).trans rfl; have hcz66_1 : w65.cell? ⟨gb196, 1, none⟩ = some (.string ((rd_T49 l0_2 x4_2).f1)) := (zc_ BK196.out 1).trans rfl; have hcz66_2 : w65.cell? ⟨gb196, 2, none⟩ = some (.int .i64 ((rd_T49 l0_2 x4_2).f2)) := (zc_ BK196.out 2).trans rfl; have hcz66_3 : w65.cell? ⟨gb196, 3, none⟩ = some (.int .i64 ((rd_T49 l0_2 x4_2).f3.f0)) := (zc_ BK196.out 3).trans rfl; have hcz66_4 : w65.cell? ⟨gb196, 4, none⟩ = some (.int .i64 ((rd_T49 l0_2 x4_2).f3.f1)) := (zc_ BK196.out 4).trans rfl; have hcz66_5 : w65.cell? ⟨gb196, 5, none⟩ = some (.int .i64 ((rd_T49 l0_2 x4_2).f3.f2)) := (zc_ BK196.out 5).trans rfl; have hcz66_6 : w65.cell? ⟨gb196, 6, none⟩ = some (.int .i64 ((rd_T49 l0_2 x4_2).f3.f3)) := (zc_ BK196.out 6).trans rfl; have hcz66_7 : w65.cell? ⟨gb196, 7, none⟩ = some (.int .i64 ((rd_T49 l0_2 x4_2).f4.f0)) := (zc_ BK196.out 7).trans rfl; have hcz66_8 : w65.cell? ⟨gb196, 8, none⟩ = some (.int .i64 ((rd_T49 l0_2 x4_2).f4.f1)) := (zc_ BK196.out 8).trans rfl; have hcz66_9 : w65.cell? ⟨gb196, 9, none⟩ = some (.int .i64 ((rd_T49 l0_2 x4_2).f4.f2)) := (zc_ BK196.out 9).trans rfl; have hcz66_10 : w65.cell? ⟨gb196, 10, none⟩ = some (.int .i64 ((rd_T49 l0_2 x4_2).f4.f3)) := (zc_ BK196.out 10).trans rfl; have hcz66_11 : w65.cell? ⟨gb196, 11, none⟩ = some (.int .i64 ((rd_T49 l0_2 x4_2).f5)) := (zc_ BK196.out 11).trans rfl; have hfz66_0 := zf_ BK196.out 0; have hfz66_1 := zf_ BK196.out 1; have hfz66_2 := zf_ BK196.out 2; have hfz66_3 := zf_ BK196.out 3; have hfz66_4 := zf_ BK196.out 4; have hfz66_5 := zf_ BK196.out 5; have hfz66_6 := zf_ BK196.out 6; have hfz66_7 := zf_ BK196.out 7; have hfz66_8 := zf_ BK196.out 8; have hfz66_9 := zf_ BK196.out 9; have hfz66_10 := zf_ BK196.out 10; have hfz66_11 := zf_ BK196.out 11) | (go_at_call 36; (with_reducible refine (usufructref11_Good.calls ((rd_T49 l0_2 x4_2).f4.f0) ((rd_T49 l0_2 x4_2).f4.f1) ((rd_T49 l0_2 x4_2).f4.f2) ((rd_T49 l0_2 x4_2).f4.f3) false _ A56.out).mono ?_); rintro e w67 ⟨rfl, hb⟩; have n0_ := ak_ (blk_below (g := gb193) (o := .cells #[.string a0_0, .int .i64 a0_1, .slice (some ad195) l0_2.length c0_2] 28 (0, 0)) (by (with_reducible repeat (first | apply zn_ | apply zd_ | apply za_)); exact BK193.out) hb); have n1_ := ak_ (blk_below (g := gb196) (o := .cells #[.string ((rd_T49 l0_2 x4_2).f0), .string ((rd_T49 l0_2 x4_2).f1), .int .i64 ((rd_T49 l0_2 x4_2).f2), .int .i64 ((rd_T49 l0_2 x4_2).f3.f0), .int .i64 ((rd_T49 l0_2 x4_2).f3.f1), .int .i64 ((rd_T49 l0_2 x4_2).f3.f2), .int .i64 ((rd_T49 l0_2 x4_2).f3.f3), .int .i64 ((rd_T49 l0_2 x4_2).f4.f0), .int .i64 ((rd_T49 l0_2 x4_2).f4.f1), .int .i64 ((rd_T49 l0_2 x4_2).f4.f2), .int .i64 ((rd_T49 l0_2 x4_2).f4.f3), .int .i64 ((rd_T49 l0_2 x4_2).f5)] 49 (0, 0)) (by (with_reducible repeat (first | apply zn_ | apply zd_ | apply za_)); exact BK196.out) hb); have n2_ := ak_ (ps_ (by repeat (first | (with_reducible first | exact HB.out | apply pa_ | apply pd_ | apply p1_ | refine zs_ ?_ GE193.out | refine zs_ ?_ GE196.out) | exact HB.out)) hb); clear BK193; clear BK196; clear HB; have BK193 := n0_; have BK196 := n1_; have HB := n2_; clear n0_ n1_ n2_; (try clear hb hk hi))); try go_wp2_with (first | (go_at_call 36; (with_reducible refine (usufructref11_Good.calls ((rd_T49 l0_2 x4_2).f3.f0) ((rd_T49 l0_2 x4_2).f3.f1) ((rd_T49 l0_2 x4_2).f3.f2) ((rd_T49 l0_2 x4_2).f3.f3) true _ A54.out).mono ?_); rintro e w65 ⟨rfl, hb⟩; have n0_ := ak_ (blk_below (g := gb193) (o := .cells #[.string a0_0, .int .i64 a0_1, .slice (some ad195) l0_2.length c0_2] 28 (0, 0)) (by (with_reducible repeat (first | apply zn_ | apply zd_ | apply za_)); exact BK193.out) hb); have n1_ := ak_ (blk_below (g := gb196) (o := .cells #[.string ((rd_T49 l0_2 x4_2).f0), .string ((rd_T49 l0_2 x4_2).f1), .int .i64 ((rd_T49 l0_2 x4_2).f2), .int .i64 ((rd_T49 l0_2 x4_2).f3.f0), .int .i64 ((rd_T49 l0_2 x4_2).f3.f1), .int .i64 ((rd_T49 l0_2 x4_2).f3.f2), .int .i64 ((rd_T49 l0_2 x4_2).f3.f3), .int .i64 ((rd_T49 l0_2 x4_2).f4.f0), .int .i64 ((rd_T49 l0_2 x4_2).f4.f1), .int .i64 ((rd_T49 l0_2 x4_2).f4.f2), .int .i64 ((rd_T49 l0_2 x4_2).f4.f3), .int .i64 ((rd_T49 l0_2 x4_2).f5)] 49 (0, 0)) (by (with_reducible repeat (first | apply zn_ | apply zd_ | apply za_)); exact BK196.out) hb); have n2_ := ak_ (ps_ (by repeat (first | (with_reducible first | exact HB.out | apply pa_ | apply pd_ | apply p1_ | refine zs_ ?_ GE193.out | refine zs_ ?_ GE196.out) | exact HB.out)) hb); clear BK193; clear BK196; clear HB; have BK193 := n0_; have BK196 := n1_; have HB := n2_; clear n0_ n1_ n2_; (try clear hb hk hi); have hcz66_0 : w65.cell? ⟨gb196, 0, none⟩ = some (.string ((rd_T49 l0_2 x4_2).f0)) := (zc_ BK196.out 0).trans rfl; have hcz66_1 : w65.cell? ⟨gb196, 1, none⟩ = some (.string ((rd_T49 l0_2 x4_2).f1)) := (zc_ BK196.out 1).trans rfl; have hcz66_2 : w65.cell? ⟨gb196, 2, none⟩ = some (.int .i64 ((rd_T49 l0_2 x4_2).f2)) := (zc_ BK196.out 2).trans rfl; have hcz66_3 : w65.cell? ⟨gb196, 3, none⟩ = some (.int .i64 ((rd_T49 l0_2 x4_2).f3.f0)) := (zc_ BK196.out 3).trans rfl; have hcz66_4 : w65.cell? ⟨gb196, 4, none⟩ = some (.int .i64 ((rd_T49 l0_2 x4_2).f3.f1)) := (zc_ BK196.out 4).trans rfl; have hcz66_5 : w65.cell? ⟨gb196, 5, none⟩ = some (.int .i64 ((rd_T49 l0_2 x4_2).f3.f2)) := (zc_ BK196.out 5).trans rfl; have hcz66_6 : w65.cell? ⟨gb196, 6, none⟩ = some (.int .i64 ((rd_T49 l0_2 x4_2).f3.f3)) := (zc_ BK196.out 6).trans rfl; have hcz66_7 : w65.cell? ⟨gb196, 7, none⟩ = some (.int .i64 ((rd_T49 l0_2 x4_2).f4.f0)) := (zc_ BK196.out 7).trans rfl; have hcz66_8 : w65.cell? ⟨gb196, 8, none⟩ = some (.int .i64 ((rd_T49 l0_2 x4_2).f4.f1)) := (zc_ BK196.out 8).trans rfl; have hcz66_9 : w65.cell? ⟨gb196, 9, none⟩ = some (.int .i64 ((rd_T49 l0_2 x4_2).f4.f2)) := (zc_ BK196.out 9).trans rfl; have hcz66_10 : w65.cell? ⟨gb196, 10, none⟩ = some (.int .i64 ((rd_T49 l0_2 x4_2).f4.f3)) := (zc_ BK196.out 10).trans rfl; have hcz66_11 : w65.cell? ⟨gb196, 11, none⟩ = some (.int .i64 ((rd_T49 l0_2 x4_2).f5)) := (zc_ BK196.out 11).trans rfl; have hfz66_0 := zf_ BK196.out 0; have hfz66_1 := zf_ BK196.out 1; have hfz66_2 := zf_ BK196.out 2; have hfz66_3 := zf_ BK196.out 3; have hfz66_4 := zf_ BK196.out 4; have hfz66_5 := zf_ BK196.out 5; have hfz66_6 := zf_ BK196.out 6; have hfz66_7 := zf_ BK196.out 7; have hfz66_8 := zf_ BK196.out 8; have hfz66_9 := zf_ BK196.out 9; have hfz66_10 := zf_ BK196.out 10; have hfz66_11 := zf_ BK196.out 11) | (go_at_call 36; (with_reducible refine (usufructref11_Good.calls ((rd_T49 l0_2 x4_2).f4.f0) ((rd_T49 l0_2 x4_2).f4.f1) ((rd_T49 l0_2 x4_2).f4.f2) ((rd_T49 l0_2 x4_2).f4.f3) false _ A56.out).mono ?_); rintro e w67 ⟨rfl, hb⟩; have n0_ := ak_ (blk_below (g := gb193) (o := .cells #[.string a0_0, .int .i64 a0_1, .slice (some ad195) l0_2.length c0_2] 28 (0, 0)) (by (with_reducible repeat (first | apply zn_ | apply zd_ | apply za_)); exact BK193.out) hb); have n1_ := ak_ (blk_below (g := gb196) (o := .cells #[.string ((rd_T49 l0_2 x4_2).f0), .string ((rd_T49 l0_2 x4_2).f1), .int .i64 ((rd_T49 l0_2 x4_2).f2), .int .i64 ((rd_T49 l0_2 x4_2).f3.f0), .int .i64 ((rd_T49 l0_2 x4_2).f3.f1), .int .i64 ((rd_T49 l0_2 x4_2).f3.f2), .int .i64 ((rd_T49 l0_2 x4_2).f3.f3), .int .i64 ((rd_T49 l0_2 x4_2).f4.f0), .int .i64 ((rd_T49 l0_2 x4_2).f4.f1), .int .i64 ((rd_T49 l0_2 x4_2).f4.f2), .int .i64 ((rd_T49 l0_2 x4_2).f4.f3), .int .i64 ((rd_T49 l0_2 x4_2).f5)] 49 (0, 0)) (by (with_reducible repeat (first | apply zn_ | apply zd_ | apply za_)); exact BK196.out) hb); have n2_ := ak_ (ps_ (by repeat (first | (with_reducible first | exact HB.out | apply pa_ | apply pd_ | apply p1_ | refine zs_ ?_ GE193.out | refine zs_ ?_ GE196.out) | exact HB.out)) hb); clear BK193; clear BK196; clear HB; have BK193 := n0_; have BK196 := n1_; have HB := n2_; clear n0_ n1_ n2_; (try clear hb hk hi))))
                              go_ret2
                              exact ⟨by first | rfl | (simp [errW_none, errW_some] <;> rfl) | (simp [*, errW_none, errW_some] <;> rfl), by repeat (first | (with_reducible first | exact HB.out | apply pa_ | apply pd_ | apply p1_ | refine zs_ ?_ GE193.out | refine zs_ ?_ GE196.out) | exact HB.out)⟩
                            replace c55 := Bool.eq_false_iff.mpr c55
                            subst c55
                            have H1 : (some (x4_2, 3)) = some (r1, r2) := by rw [if_neg (show ¬ (false = true) by decide)] at H; exact H
                            clear H
                            have H := H1
                            clear H1
                            simp only [Option.some.injEq, Prod.mk.injEq] at H
                            obtain ⟨rfl, rfl⟩ := H
                            have hnb68 := NB196_193.out
                            have hnc68 := NB193_196.out
                            have hcz69_0 : wc.cell? ⟨gb196, 0, none⟩ = some (.string ((rd_T49 l0_2 x4_2).f0)) := (zc_ BK196.out 0).trans rfl
                            have hcz69_1 : wc.cell? ⟨gb196, 1, none⟩ = some (.string ((rd_T49 l0_2 x4_2).f1)) := (zc_ BK196.out 1).trans rfl
                            have hcz69_2 : wc.cell? ⟨gb196, 2, none⟩ = some (.int .i64 ((rd_T49 l0_2 x4_2).f2)) := (zc_ BK196.out 2).trans rfl
                            have hcz69_3 : wc.cell? ⟨gb196, 3, none⟩ = some (.int .i64 ((rd_T49 l0_2 x4_2).f3.f0)) := (zc_ BK196.out 3).trans rfl
                            have hcz69_4 : wc.cell? ⟨gb196, 4, none⟩ = some (.int .i64 ((rd_T49 l0_2 x4_2).f3.f1)) := (zc_ BK196.out 4).trans rfl
                            have hcz69_5 : wc.cell? ⟨gb196, 5, none⟩ = some (.int .i64 ((rd_T49 l0_2 x4_2).f3.f2)) := (zc_ BK196.out 5).trans rfl
                            have hcz69_6 : wc.cell? ⟨gb196, 6, none⟩ = some (.int .i64 ((rd_T49 l0_2 x4_2).f3.f3)) := (zc_ BK196.out 6).trans rfl
                            have hcz69_7 : wc.cell? ⟨gb196, 7, none⟩ = some (.int .i64 ((rd_T49 l0_2 x4_2).f4.f0)) := (zc_ BK196.out 7).trans rfl
                            have hcz69_8 : wc.cell? ⟨gb196, 8, none⟩ = some (.int .i64 ((rd_T49 l0_2 x4_2).f4.f1)) := (zc_ BK196.out 8).trans rfl
                            have hcz69_9 : wc.cell? ⟨gb196, 9, none⟩ = some (.int .i64 ((rd_T49 l0_2 x4_2).f4.f2)) := (zc_ BK196.out 9).trans rfl
                            have hcz69_10 : wc.cell? ⟨gb196, 10, none⟩ = some (.int .i64 ((rd_T49 l0_2 x4_2).f4.f3)) := (zc_ BK196.out 10).trans rfl
                            have hcz69_11 : wc.cell? ⟨gb196, 11, none⟩ = some (.int .i64 ((rd_T49 l0_2 x4_2).f5)) := (zc_ BK196.out 11).trans rfl
                            have hfz69_0 := zf_ BK196.out 0
                            have hfz69_1 := zf_ BK196.out 1
                            have hfz69_2 := zf_ BK196.out 2
                            have hfz69_3 := zf_ BK196.out 3
                            have hfz69_4 := zf_ BK196.out 4
                            have hfz69_5 := zf_ BK196.out 5
                            have hfz69_6 := zf_ BK196.out 6
                            have hfz69_7 := zf_ BK196.out 7
                            have hfz69_8 := zf_ BK196.out 8
                            have hfz69_9 := zf_ BK196.out 9
                            have hfz69_10 := zf_ BK196.out 10
                            have hfz69_11 := zf_ BK196.out 11
                            go_wp2_with (first | (go_at_call 36; (with_reducible refine (usufructref11_Good.calls ((rd_T49 l0_2 x4_2).f3.f0) ((rd_T49 l0_2 x4_2).f3.f1) ((rd_T49 l0_2 x4_2).f3.f2) ((rd_T49 l0_2 x4_2).f3.f3) false _ A54.out).mono ?_); rintro e w70 ⟨rfl, hb⟩; have n0_ := ak_ (blk_below (g := gb193) (o := .cells #[.string a0_0, .int .i64 a0_1, .slice (some ad195) l0_2.length c0_2] 28 (0, 0)) (by (with_reducible repeat (first | apply zn_ | apply zd_ | apply za_)); exact BK193.out) hb); have n1_ := ak_ (blk_below (g := gb196) (o := .cells #[.string ((rd_T49 l0_2 x4_2).f0), .string ((rd_T49 l0_2 x4_2).f1), .int .i64 ((rd_T49 l0_2 x4_2).f2), .int .i64 ((rd_T49 l0_2 x4_2).f3.f0), .int .i64 ((rd_T49 l0_2 x4_2).f3.f1), .int .i64 ((rd_T49 l0_2 x4_2).f3.f2), .int .i64 ((rd_T49 l0_2 x4_2).f3.f3), .int .i64 ((rd_T49 l0_2 x4_2).f4.f0), .int .i64 ((rd_T49 l0_2 x4_2).f4.f1), .int .i64 ((rd_T49 l0_2 x4_2).f4.f2), .int .i64 ((rd_T49 l0_2 x4_2).f4.f3), .int .i64 ((rd_T49 l0_2 x4_2).f5)] 49 (0, 0)) (by (with_reducible repeat (first | apply zn_ | apply zd_ | apply za_)); exact BK196.out) hb); have n2_ := ak_ (ps_ (by repeat (first | (with_reducible first | exact HB.out | apply pa_ | apply pd_ | apply p1_ | refine zs_ ?_ GE193.out | refine zs_ ?_ GE196.out) | exact HB.out)) hb); clear BK193; clear BK196; clear HB; have BK193 := n0_; have BK196 := n1_; have HB := n2_; clear n0_ n1_ n2_; (try clear hb hk hi)))
                            repeat (go_quiet (first | (go_at_call 36; (with_reducible refine (usufructref11_Good.calls ((rd_T49 l0_2 x4_2).f3.f0) ((rd_T49 l0_2 x4_2).f3.f1) ((rd_T49 l0_2 x4_2).f3.f2) ((rd_T49 l0_2 x4_2).f3.f3) false _ A54.out).mono ?_); rintro e w70 ⟨rfl, hb⟩; have n0_ := ak_ (blk_below (g := gb193) (o := .cells #[.string a0_0, .int .i64 a0_1, .slice (some ad195) l0_2.length c0_2] 28 (0, 0)) (by (with_reducible repeat (first | apply zn_ | apply zd_ | apply za_)); exact BK193.out) hb); have n1_ := ak_ (blk_below (g := gb196) (o := .cells #[.string ((rd_T49 l0_2 x4_2).f0), .string ((rd_T49 l0_2 x4_2).f1), .int .i64 ((rd_T49 l0_2 x4_2).f2), .int .i64 ((rd_T49 l0_2 x4_2).f3.f0), .int .i64 ((rd_T49 l0_2 x4_2).f3.f1), .int .i64 ((rd_T49 l0_2 x4_2).f3.f2), .int .i64 ((rd_T49 l0_2 x4_2).f3.f3), .int .i64 ((rd_T49 l0_2 x4_2).f4.f0), .int .i64 ((rd_T49 l0_2 x4_2).f4.f1), .int .i64 ((rd_T49 l0_2 x4_2).f4.f2), .int .i64 ((rd_T49 l0_2 x4_2).f4.f3), .int .i64 ((rd_T49 l0_2 x4_2).f5)] 49 (0, 0)) (by (with_reducible repeat (first | apply zn_ | apply zd_ | apply za_)); exact BK196.out) hb); have n2_ := ak_ (ps_ (by repeat (first | (with_reducible first | exact HB.out | apply pa_ | apply pd_ | apply p1_ | refine zs_ ?_ GE193.out | refine zs_ ?_ GE196.out) | exact HB.out)) hb); clear BK193; clear BK196; clear HB; have BK193 := n0_; have BK196 := n1_; have HB := n2_; clear n0_ n1_ n2_; (try clear hb hk hi))); try go_wp2_with (first | (go_at_call 36; (with_reducible refine (usufructref11_Good.calls ((rd_T49 l0_2 x4_2).f3.f0) ((rd_T49 l0_2 x4_2).f3.f1) ((rd_T49 l0_2 x4_2).f3.f2) ((rd_T49 l0_2 x4_2).f3.f3) false _ A54.out).mono ?_); rintro e w70 ⟨rfl, hb⟩; have n0_ := ak_ (blk_below (g := gb193) (o := .cells #[.string a0_0, .int .i64 a0_1, .slice (some ad195) l0_2.length c0_2] 28 (0, 0)) (by (with_reducible repeat (first | apply zn_ | apply zd_ | apply za_)); exact BK193.out) hb); have n1_ := ak_ (blk_below (g := gb196) (o := .cells #[.string ((rd_T49 l0_2 x4_2).f0), .string ((rd_T49 l0_2 x4_2).f1), .int .i64 ((rd_T49 l0_2 x4_2).f2), .int .i64 ((rd_T49 l0_2 x4_2).f3.f0), .int .i64 ((rd_T49 l0_2 x4_2).f3.f1), .int .i64 ((rd_T49 l0_2 x4_2).f3.f2), .int .i64 ((rd_T49 l0_2 x4_2).f3.f3), .int .i64 ((rd_T49 l0_2 x4_2).f4.f0), .int .i64 ((rd_T49 l0_2 x4_2).f4.f1), .int .i64 ((rd_T49 l0_2 x4_2).f4.f2), .int .i64 ((rd_T49 l0_2 x4_2).f4.f3), .int .i64 ((rd_T49 l0_2 x4_2).f5)] 49 (0, 0)) (by (with_reducible repeat (first | apply zn_ | apply zd_ | apply za_)); exact BK196.out) hb); have n2_ := ak_ (ps_ (by repeat (first | (with_reducible first | exact HB.out | apply pa_ | apply pd_ | apply p1_ | refine zs_ ?_ GE193.out | refine zs_ ?_ GE196.out) | exact HB.out)) hb); clear BK193; clear BK196; clear HB; have BK193 := n0_; have BK196 := n1_; have HB := n2_; clear n0_ n1_ n2_; (try clear hb hk hi))))
                            go_ret2
                            exact ⟨by first | rfl | (simp [errW_none, errW_some] <;> rfl) | (simp [*, errW_none, errW_some] <;> rfl), by repeat (first | (with_reducible first | exact HB.out | apply pa_ | apply pd_ | apply p1_ | refine zs_ ?_ GE193.out | refine zs_ ?_ GE196.out) | exact HB.out)⟩
              rw [if_neg c17] at H
              exact absurd H (by simp)
            rw [if_neg c16] at H
            have c16b0 : decide (x4_2 < (l0_2.length : Int)) = false := decide_eq_false c16
            clear c16
            simp only [Option.some.injEq, Prod.mk.injEq] at H
            obtain ⟨rfl, rfl⟩ := H
            have hcz71_0 : wr.cell? ⟨gb193, 0, none⟩ = some (.string a0_0) := (zc_ BK193.out 0).trans rfl
            have hcz71_1 : wr.cell? ⟨gb193, 1, none⟩ = some (.int .i64 a0_1) := (zc_ BK193.out 1).trans rfl
            have hcz71_2 : wr.cell? ⟨gb193, 2, none⟩ = some (.slice A0_2 l0_2.length c0_2) := (zc_ BK193.out 2).trans rfl
            have hfz71_0 := zf_ BK193.out 0
            have hfz71_1 := zf_ BK193.out 1
            have hfz71_2 := zf_ BK193.out 2
            go_wp2
            repeat (go_quiet (fail); try go_wp2)
            go_ret2
            exact ⟨by first | rfl | (simp [errW_none, errW_some] <;> rfl) | (simp [*, errW_none, errW_some] <;> rfl), by repeat (first | (with_reducible first | exact HB.out | apply pa_ | apply pd_ | apply p1_ | refine zs_ ?_ GE193.out) | exact HB.out)⟩
  replace c3 := Bool.eq_false_iff.mpr c3
  subst c3
  have H1 : (some ((-1), 10)) = some (r1, r2) := by rw [if_neg (show ¬ (false = true) by decide)] at H; exact H
  clear H
  have H := H1
  clear H1
  simp only [Option.some.injEq, Prod.mk.injEq] at H
  obtain ⟨rfl, rfl⟩ := H
  go_enter Try.func20, Try.ntmps20
  go_wp2_with (first | ((with_reducible refine gate_dst (N := 1) rfl ?_); refine box_event ?hg (N := 1) ?hd (cs := #[.string a0_0, .int .i64 a0_1, .slice A0_2 l0_2.length c0_2]) (t := 28) ?hr ?_; (case hd => rfl); (case hg => rfl); (case hr => first | (go_simp; done) | (go_simp; rfl)); intro gb193 hg w72 hbox hb; have n0_ := ak_ (ps_ (by repeat (first | (with_reducible first | exact HB.out | apply pa_ | apply pd_ | apply p1_) | exact HB.out)) hb); have n1_ := ak_ (hbox); have n2_ := ak_ ((by rw [hg]; exact (below_size (by repeat (first | (with_reducible first | exact HB.out | apply pa_ | apply pd_ | apply p1_) | exact HB.out))) : w.heap.size ≤ gb193)); have n3_ := ak_ ((by rw [hg]; exact (below_size (by repeat (first | (with_reducible first | exact HB.out | apply pa_ | apply pd_ | apply p1_) | exact HB.out))) : w.heap.size ≤ gb193)); clear HB; have HB := n0_; have BK193 := n1_; have GW193 := n2_; have GE193 := n3_; clear n0_ n1_ n2_ n3_; clear hb hbox hg; have hcz73_0 : w72.cell? ⟨gb193, 0, none⟩ = some (.string a0_0) := (zc_ BK193.out 0).trans rfl; have hcz73_1 : w72.cell? ⟨gb193, 1, none⟩ = some (.int .i64 a0_1) := (zc_ BK193.out 1).trans rfl; have hcz73_2 : w72.cell? ⟨gb193, 2, none⟩ = some (.slice A0_2 l0_2.length c0_2) := (zc_ BK193.out 2).trans rfl; have hfz73_0 := zf_ BK193.out 0; have hfz73_1 := zf_ BK193.out 1; have hfz73_2 := zf_ BK193.out 2) | (go_at_call 35; (with_reducible refine (usufructref02_Good.calls k a0_0 false _ A2.out).mono ?_); rintro e w' ⟨rfl, ⟨nd, rfl⟩⟩; (try first | exact ⟨rfl, _, World.drewN_drewN _ _ _⟩ | exact ⟨rfl, _, Eq.trans (World.drewN_drewN _ _ _) (congrArg (World.drewN _) (Nat.add_assoc _ _ _))⟩)))
  repeat (go_quiet (first | ((with_reducible refine gate_dst (N := 1) rfl ?_); refine box_event ?hg (N := 1) ?hd (cs := #[.string a0_0, .int .i64 a0_1, .slice A0_2 l0_2.length c0_2]) (t := 28) ?hr ?_; (case hd => rfl); (case hg => rfl); (case hr => first | (go_simp; done) | (go_simp; rfl)); intro gb193 hg w72 hbox hb; have n0_ := ak_ (ps_ (by repeat (first | (with_reducible first | exact HB.out | apply pa_ | apply pd_ | apply p1_) | exact HB.out)) hb); have n1_ := ak_ (hbox); have n2_ := ak_ ((by rw [hg]; exact (below_size (by repeat (first | (with_reducible first | exact HB.out | apply pa_ | apply pd_ | apply p1_) | exact HB.out))) : w.heap.size ≤ gb193)); have n3_ := ak_ ((by rw [hg]; exact (below_size (by repeat (first | (with_reducible first | exact HB.out | apply pa_ | apply pd_ | apply p1_) | exact HB.out))) : w.heap.size ≤ gb193)); clear HB; have HB := n0_; have BK193 := n1_; have GW193 := n2_; have GE193 := n3_; clear n0_ n1_ n2_ n3_; clear hb hbox hg; have hcz73_0 : w72.cell? ⟨gb193, 0, none⟩ = some (.string a0_0) := (zc_ BK193.out 0).trans rfl; have hcz73_1 : w72.cell? ⟨gb193, 1, none⟩ = some (.int .i64 a0_1) := (zc_ BK193.out 1).trans rfl; have hcz73_2 : w72.cell? ⟨gb193, 2, none⟩ = some (.slice A0_2 l0_2.length c0_2) := (zc_ BK193.out 2).trans rfl; have hfz73_0 := zf_ BK193.out 0; have hfz73_1 := zf_ BK193.out 1; have hfz73_2 := zf_ BK193.out 2) | (go_at_call 35; (with_reducible refine (usufructref02_Good.calls k a0_0 false _ A2.out).mono ?_); rintro e w' ⟨rfl, ⟨nd, rfl⟩⟩; (try first | exact ⟨rfl, _, World.drewN_drewN _ _ _⟩ | exact ⟨rfl, _, Eq.trans (World.drewN_drewN _ _ _) (congrArg (World.drewN _) (Nat.add_assoc _ _ _))⟩))); try go_wp2_with (first | ((with_reducible refine gate_dst (N := 1) rfl ?_); refine box_event ?hg (N := 1) ?hd (cs := #[.string a0_0, .int .i64 a0_1, .slice A0_2 l0_2.length c0_2]) (t := 28) ?hr ?_; (case hd => rfl); (case hg => rfl); (case hr => first | (go_simp; done) | (go_simp; rfl)); intro gb193 hg w72 hbox hb; have n0_ := ak_ (ps_ (by repeat (first | (with_reducible first | exact HB.out | apply pa_ | apply pd_ | apply p1_) | exact HB.out)) hb); have n1_ := ak_ (hbox); have n2_ := ak_ ((by rw [hg]; exact (below_size (by repeat (first | (with_reducible first | exact HB.out | apply pa_ | apply pd_ | apply p1_) | exact HB.out))) : w.heap.size ≤ gb193)); have n3_ := ak_ ((by rw [hg]; exact (below_size (by repeat (first | (with_reducible first | exact HB.out | apply pa_ | apply pd_ | apply p1_) | exact HB.out))) : w.heap.size ≤ gb193)); clear HB; have HB := n0_; have BK193 := n1_; have GW193 := n2_; have GE193 := n3_; clear n0_ n1_ n2_ n3_; clear hb hbox hg; have hcz73_0 : w72.cell? ⟨gb193, 0, none⟩ = some (.string a0_0) := (zc_ BK193.out 0).trans rfl; have hcz73_1 : w72.cell? ⟨gb193, 1, none⟩ = some (.int .i64 a0_1) := (zc_ BK193.out 1).trans rfl; have hcz73_2 : w72.cell? ⟨gb193, 2, none⟩ = some (.slice A0_2 l0_2.length c0_2) := (zc_ BK193.out 2).trans rfl; have hfz73_0 := zf_ BK193.out 0; have hfz73_1 := zf_ BK193.out 1; have hfz73_2 := zf_ BK193.out 2) | (go_at_call 35; (with_reducible refine (usufructref02_Good.calls k a0_0 false _ A2.out).mono ?_); rintro e w' ⟨rfl, ⟨nd, rfl⟩⟩; (try first | exact ⟨rfl, _, World.drewN_drewN _ _ _⟩ | exact ⟨rfl, _, Eq.trans (World.drewN_drewN _ _ _) (congrArg (World.drewN _) (Nat.add_assoc _ _ _))⟩))))
  go_ret2
  exact ⟨by first | rfl | (simp [errW_none, errW_some] <;> rfl) | (simp [*, errW_none, errW_some] <;> rfl), by repeat (first | (with_reducible first | exact HB.out | apply pa_ | apply pd_ | apply p1_ | refine zs_ ?_ GE193.out) | exact HB.out)⟩

end Go.Proofs.Ytookpfpmobbhiaa.Q
