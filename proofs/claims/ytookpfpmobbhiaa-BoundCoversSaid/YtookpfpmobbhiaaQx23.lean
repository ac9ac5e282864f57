-- written for this claim by a program of the session
import Derived.Test.YtookpfpmobbhiaaQx0
import Derived.Test.YtookpfpmobbhiaaQx3
import Derived.Test.YtookpfpmobbhiaaQx22
import Derived.Test.YtookpfpmobbhiaaGBoundB
import Derived.Test.YtookpfpmobbhiaaGBoundA
namespace Go.Proofs.Ytookpfpmobbhiaa.Q
open Go.RowKit Go.Proofs.YtookpfpmobbhiaaW.PrintWords Go.Proofs.YtookpfpmobbhiaaW.PrintLast Go.Proofs.YtookpfpmobbhiaaW.PrintMore
attribute [local go_sem] max2_int min2_int max_two min_two max_three min_three max_four min_four   -- for this text's walks alone
set_option linter.unusedVariables false
set_option linter.unusedSimpArgs false

/-! ### usufructlaw25_BoundCovers: function 4 -/
mutual
def usufructlaw25_BoundCovers.j0 : Nat → List (S51) → List Int → Bool → ByteArray → Int → List (S49) → Option (Bool)
  | 0, _, _, _, _, _, _ => none
  | k + 1, x1, x2, x36, x203000, x203001, x203002 => if x36 = true then (some true) else ((some (([(⟨x203000, x203001, x203002⟩ : S28)] : List (S28)) : List (S28))).bind fun y207 => ((bound_Ticks.f y207 ([] : List (S44)) (x2.length : Int) x1).bind fun t211 => (usufructlaw25_BoundCovers.l0 k x1 x2 t211 0 x203000 x203001 x203002 y207 ([] : List (S44)) (x2.length : Int))))
def usufructlaw25_BoundCovers.l0 : Nat → List (S51) → List Int → Int → Int → ByteArray → Int → List (S49) → List (S28) → List (S44) → Int → Option (Bool)
  | 0, _, _, _, _, _, _, _, _, _, _ => none
  | k + 1, x1, x2, x10, x11, x203000, x203001, x203002, x211000, x211001, x211002 => if x11 < (x2.length : Int) then (if 0 ≤ x11 then (if x211001.length < 1759218604441 then ((some (x211001 ++ [(⟨x11, x203000, 0, wrap64 (Int.tmod (rd x2 x11) 6), 0, 0, false, 0, 0⟩ : S44)] : List (S44))).bind fun y214 => ((bound_Ticks.f x211000 y214 x211002 x1).bind fun t217 => (if t217 < x10 then (some false) else ((bound_Live.f x211000 y214 x211002).bind fun t218 => ((bound_Total.f x203000 x203001 x203002 x1 t218).bind fun t219 => (if t217 > t219 then (some false) else ((bound_Live.f x211000 y214 x211002).bind fun t220 => (if t220 > (y214.length : Int) then (some false) else (usufructlaw25_BoundCovers.l0 k x1 x2 t217 (wrap64 (x11 + 1)) x203000 x203001 x203002 x211000 y214 x211002))))))))) else (none)) else (none)) else ((bound_Emissions.f x203000 x203001 x203002).bind fun t212 => (some (decide (t212 ≥ (wrap64 (2 * (x203002.length : Int)))))))
end
def usufructlaw25_BoundCovers.f (k : Nat) (a0_0 : ByteArray) (a0_1 : Int) (l0_2 : List (S49)) (l1 : List (S51)) (l2 : List Int) : Option (Bool) := (usufructlaw25_awake.f).bind fun t203 => (if t203 = true then ((usufructref13_Check.f k a0_0 a0_1 l0_2).bind fun bt204 => ((usufructlaw13_Small.f k a0_0 a0_1 l0_2).bind fun t206 => (if t206 = 0 then (if bt204.2 = 0 then (if (l1.length : Int) > 20 then (usufructlaw25_BoundCovers.j0 k l1 l2 true a0_0 a0_1 l0_2) else (usufructlaw25_BoundCovers.j0 k l1 l2 (decide ((l2.length : Int) > 20)) a0_0 a0_1 l0_2)) else (usufructlaw25_BoundCovers.j0 k l1 l2 true a0_0 a0_1 l0_2)) else (usufructlaw25_BoundCovers.j0 k l1 l2 true a0_0 a0_1 l0_2)))) else (some false))
theorem usufructlaw25_BoundCovers.mono_l : ∀ k, (∀ y0 y1 y2 y3 y4 y5, LeO (usufructlaw25_BoundCovers.j0 k y0 y1 y2 y3 y4 y5) (usufructlaw25_BoundCovers.j0 (k + 1) y0 y1 y2 y3 y4 y5)) ∧ (∀ y0 y1 y2 y3 y4 y5 y6 y7 y8 y9, LeO (usufructlaw25_BoundCovers.l0 k y0 y1 y2 y3 y4 y5 y6 y7 y8 y9) (usufructlaw25_BoundCovers.l0 (k + 1) y0 y1 y2 y3 y4 y5 y6 y7 y8 y9))
  | 0 => ⟨fun _ _ _ _ _ _ r h => by simp [usufructlaw25_BoundCovers.j0] at h, fun _ _ _ _ _ _ _ _ _ _ r h => by simp [usufructlaw25_BoundCovers.l0] at h⟩
  | k + 1 => by
    obtain ⟨ih0, ih1⟩ := usufructlaw25_BoundCovers.mono_l k
    refine ⟨?_, ?_⟩
    · intro y0 y1 y2 y3 y4 y5
      unfold usufructlaw25_BoundCovers.j0
      repeat' first
      | (with_reducible exact ih0 _ _ _ _ _ _)
      | (with_reducible exact ih1 _ _ _ _ _ _ _ _ _ _)
      | (with_reducible exact usufructlaw13_Small.mono _ _ _ _)
      | (with_reducible exact usufructref13_Check.mono _ _ _ _)
      | (with_reducible exact LeO.refl _)
      | (with_reducible exact LeO.none _)
      | (with_reducible refine LeO.ite ?_ ?_)
      | (with_reducible refine LeO.bind ?_ (fun _ => ?_))
      | exact ih0 _ _ _ _ _ _
      | exact ih1 _ _ _ _ _ _ _ _ _ _
      | exact usufructlaw13_Small.mono _ _ _ _
      | exact usufructref13_Check.mono _ _ _ _
      | exact LeO.none _
      | refine LeO.ite ?_ ?_
      | refine LeO.bind ?_ (fun _ => ?_)
    · intro y0 y1 y2 y3 y4 y5 y6 y7 y8 y9
      unfold usufructlaw25_BoundCovers.l0
      repeat' first
      | (with_reducible exact ih0 _ _ _ _ _ _)
      | (with_reducible exact ih1 _ _ _ _ _ _ _ _ _ _)
      | (with_reducible exact usufructlaw13_Small.mono _ _ _ _)
      | (with_reducible exact usufructref13_Check.mono _ _ _ _)
      | (with_reducible exact LeO.refl _)
      | (with_reducible exact LeO.none _)
      | (with_reducible refine LeO.ite ?_ ?_)
      | (with_reducible refine LeO.bind ?_ (fun _ => ?_))
      | exact ih0 _ _ _ _ _ _
      | exact ih1 _ _ _ _ _ _ _ _ _ _
      | exact usufructlaw13_Small.mono _ _ _ _
      | exact usufructref13_Check.mono _ _ _ _
      | exact LeO.none _
      | refine LeO.ite ?_ ?_
      | refine LeO.bind ?_ (fun _ => ?_)
theorem usufructlaw25_BoundCovers.mono : ∀ a0 a1 a2 a3 a4 k, LeO (usufructlaw25_BoundCovers.f k a0 a1 a2 a3 a4) (usufructlaw25_BoundCovers.f (k + 1) a0 a1 a2 a3 a4) := by
  intro a0 a1 a2 a3 a4 k
  obtain ⟨ih0, ih1⟩ := usufructlaw25_BoundCovers.mono_l k
  unfold usufructlaw25_BoundCovers.f
  repeat' first
      | (with_reducible exact ih0 _ _ _ _ _ _)
      | (with_reducible exact ih1 _ _ _ _ _ _ _ _ _ _)
      | (with_reducible exact usufructlaw13_Small.mono _ _ _ _)
      | (with_reducible exact usufructref13_Check.mono _ _ _ _)
      | (with_reducible exact LeO.refl _)
      | (with_reducible exact LeO.none _)
      | (with_reducible refine LeO.ite ?_ ?_)
      | (with_reducible refine LeO.bind ?_ (fun _ => ?_))
      | exact ih0 _ _ _ _ _ _
      | exact ih1 _ _ _ _ _ _ _ _ _ _
      | exact usufructlaw13_Small.mono _ _ _ _
      | exact usufructref13_Check.mono _ _ _ _
      | exact LeO.none _
      | refine LeO.ite ?_ ?_
      | refine LeO.bind ?_ (fun _ => ?_)
def usufructlaw25_BoundCovers.T11 : Bool × List (List Nat × List Nat) := (true, [([], []), ([0], [0]), ([], []), ([], []), ([3], [3]), ([], []), ([], []), ([5, 6], [5, 6]), ([7], [7]), ([8], [8]), ([9], [9]), ([2, 4, 10], [2, 4, 10]), ([11], [11]), ([1, 12], [1, 12]), ([0, 1, 2, 3, 4, 5, 6, 7, 8, 9, 10, 11, 12, 13], []), ([14, 13, 13, 0, 1, 2, 3, 4, 5, 6, 7, 8, 9, 10, 11, 12, 13], [13, 14])])
def usufructlaw25_BoundCovers.B11 : List Nat := [0, 1, 0, 0, 8, 0, 0, 96, 224, 480, 992, 2044, 4092, 8191, 16383, 32767]
theorem usufructlaw25_BoundCovers.tab11 : rtab .any (opsOf Try.f4 11) = usufructlaw25_BoundCovers.T11 := by kernel_rfl
theorem usufructlaw25_BoundCovers.bits11 : waitsOk usufructlaw25_BoundCovers.T11.2 usufructlaw25_BoundCovers.B11 = true := by kernel_rfl
def usufructlaw25_BoundCovers.T13 : Bool × List (List Nat × List Nat) := (true, [([], []), ([], []), ([0, 1], [0, 1]), ([2], [2]), ([3], [3]), ([3], [3]), ([3], [3]), ([3], [3]), ([7, 3, 3], [3, 7]), ([5, 6, 8, 8, 3], [3, 5, 6, 8]), ([4, 9, 3], [3, 4, 9]), ([3, 10], [3, 10]), ([11, 9], [11]), ([12], [12]), ([13, 12, 12], [12, 13]), ([12], [12]), ([15, 12], [12, 15]), ([16, 12], [12, 16]), ([14, 17, 12], [12, 14, 17]), ([12, 18], [12, 18])])
def usufructlaw25_BoundCovers.B13 : List Nat := [0, 0, 3, 7, 15, 15, 15, 15, 143, 495, 1023, 2047, 4095, 8191, 16383, 8191, 40959, 106495, 262143, 524287]
theorem usufructlaw25_BoundCovers.tab13 : rtab .any (opsOf Try.f4 13) = usufructlaw25_BoundCovers.T13 := by kernel_rfl
theorem usufructlaw25_BoundCovers.bits13 : waitsOk usufructlaw25_BoundCovers.T13.2 usufructlaw25_BoundCovers.B13 = true := by kernel_rfl
def usufructlaw25_BoundCovers.T16 : Bool × List (List Nat × List Nat) := (true, [([], []), ([0], [0]), ([], []), ([2], [2]), ([3], [3]), ([4], [4]), ([1, 5], [1, 5]), ([6, 1, 0, 1, 2, 3, 4, 5, 6], [6])])
def usufructlaw25_BoundCovers.B16 : List Nat := [0, 1, 0, 4, 12, 28, 63, 127]
theorem usufructlaw25_BoundCovers.tab16 : rtab .any (opsOf Try.f4 16) = usufructlaw25_BoundCovers.T16 := by kernel_rfl
theorem usufructlaw25_BoundCovers.bits16 : waitsOk usufructlaw25_BoundCovers.T16.2 usufructlaw25_BoundCovers.B16 = true := by kernel_rfl
namespace usufructlaw25_BoundCovers
theorem mt_ {α β : Type} {f : α → β} {l : List α} : l.toArray.map f = (l.map f).toArray := List.map_toArray
theorem mc_ {α β : Type} {f : α → β} {a : α} {l : List α} : (a :: l).map f = f a :: l.map f := rfl
theorem mn_ {α β : Type} {f : α → β} : ([] : List α).map f = [] := rfl
abbrev zn_ := @blk_drewN
abbrev zd_ := @blk_drew
abbrev za_ := @blk_alloc
abbrev zf_ := @blk_frozen
abbrev zc_ := @blk_cell
abbrev zs_ := @below_set
abbrev zr_ := @blk_far
abbrev zp_ := @blk_put
abbrev pd_ := @pw_below_drewN
abbrev p1_ := @below_drew1
abbrev pa_ := @below_alloc
abbrev ak_ := @Aside0.mk
abbrev bl_ := @World.block_lt_of_cell?
abbrev ps_ := @below_step
def b_ (n k : Nat) : Array Bool := ((List.range n).map fun i => k.testBit i).toArray
theorem sa_ {α : Type} {l : List α} {i : Nat} {a : α} : l.toArray.setIfInBounds i a = (l.set i a).toArray := List.setIfInBounds_toArray l i a
theorem sz_ {α : Type} {a b : α} {l : List α} : (a :: l).set 0 b = b :: l := rfl
theorem ss_ {α : Type} {a b : α} {l : List α} {n : Nat} : (a :: l).set (n + 1) b = a :: l.set n b := rfl
end usufructlaw25_BoundCovers
open usufructlaw25_BoundCovers in
set_option maxHeartbeats 8000000 in
set_option maxRecDepth 100000 in
theorem usufructlaw25_BoundCovers.calls (k : Nat) (a0_0 : ByteArray) (a0_1 : Int) (P0_2_ : Nat → Prop) (A0_2 : Option Addr) (c0_2 : Nat) (l0_2 : List (S49)) (A1 : Option Addr) (c1 : Nat) (l1 : List (S51)) (A2 : Option Addr) (c2 : Nat) (l2 : List Int) (r : Bool) (w : World) (hs0_2 : Kd.V k49 49 w w.heap.size (fun k_ => P0_2_ k_) (.slice A0_2 l0_2.length c0_2) l0_2) (hr1 : Kd.C k51 w A1 l1.length l1) (hc1 : l1.length ≤ c1) (hr2 : Kd.C (Kd.int .u8) w A2 l2.length l2) (hc2 : l2.length ≤ c2) (h : usufructlaw25_BoundCovers.f k a0_0 a0_1 l0_2 l1 l2 = some r) (hT_ : r = true) :
    Calls Try.prog 4 #[.agg #[.string a0_0, .int .i64 a0_1, .slice A0_2 l0_2.length c0_2], .slice A1 l1.length c1, .slice A2 l2.length c2] w fun e w' => e = .returned (.bool r) ∧ Below w.heap.size w w' := by
  have HTR_ := ak_ hT_
  clear hT_
  have hu28 := Try.underlying28
  have hu25 := Try.underlying25
  have hu44 := Try.underlying44
  have HO0_2 := ak_ (show Kd.V k49 49 w w.heap.size (fun k_ => (P0_2_ k_ ∨ w.heap.size ≤ k_)) (.slice A0_2 l0_2.length c0_2) l0_2 from Kd.V_mono hs0_2 (fun k_ hk => .inl hk))
  have HR1 := ak_ hr1
  have HC1 := ak_ hc1
  clear hr1 hc1
  have HR2 := ak_ hr2
  have HC2 := ak_ hc2
  clear hr2 hc2
  have HB := ak_ (Below.refl w.heap.size w)
  have H : ((usufructlaw25_awake.f).bind fun t203 => (if t203 = true then ((usufructref13_Check.f k a0_0 a0_1 l0_2).bind fun bt204 => ((usufructlaw13_Small.f k a0_0 a0_1 l0_2).bind fun t206 => (if t206 = 0 then (if bt204.2 = 0 then (if (l1.length : Int) > 20 then (usufructlaw25_BoundCovers.j0 k l1 l2 true a0_0 a0_1 l0_2) else (usufructlaw25_BoundCovers.j0 k l1 l2 (decide ((l2.length : Int) > 20)) a0_0 a0_1 l0_2)) else (usufructlaw25_BoundCovers.j0 k l1 l2 true a0_0 a0_1 l0_2)) else (usufructlaw25_BoundCovers.j0 k l1 l2 true a0_0 a0_1 l0_2)))) else (some false))) = some r := h
  clear h
  replace H := Option.bind_eq_some_iff.mp H
  obtain ⟨t203, A40, H⟩ := H
  replace H : (if t203 = true then ((usufructref13_Check.f k a0_0 a0_1 l0_2).bind fun bt204 => ((usufructlaw13_Small.f k a0_0 a0_1 l0_2).bind fun t206 => (if t206 = 0 then (if bt204.2 = 0 then (if (l1.length : Int) > 20 then (usufructlaw25_BoundCovers.j0 k l1 l2 true a0_0 a0_1 l0_2) else (usufructlaw25_BoundCovers.j0 k l1 l2 (decide ((l2.length : Int) > 20)) a0_0 a0_1 l0_2)) else (usufructlaw25_BoundCovers.j0 k l1 l2 true a0_0 a0_1 l0_2)) else (usufructlaw25_BoundCovers.j0 k l1 l2 true a0_0 a0_1 l0_2)))) else (some false)) = some r := H
  have A4 := ak_ A40
  clear A40
  by_cases c5 : t203 = true
  · subst c5
    have H1 : ((usufructref13_Check.f k a0_0 a0_1 l0_2).bind fun bt204 => ((usufructlaw13_Small.f k a0_0 a0_1 l0_2).bind fun t206 => (if t206 = 0 then (if bt204.2 = 0 then (if (l1.length : Int) > 20 then (usufructlaw25_BoundCovers.j0 k l1 l2 true a0_0 a0_1 l0_2) else (usufructlaw25_BoundCovers.j0 k l1 l2 (decide ((l2.length : Int) > 20)) a0_0 a0_1 l0_2)) else (usufructlaw25_BoundCovers.j0 k l1 l2 true a0_0 a0_1 l0_2)) else (usufructlaw25_BoundCovers.j0 k l1 l2 true a0_0 a0_1 l0_2)))) = some r := by rw [if_pos rfl] at H; exact H
    clear H
    have H := H1
    clear H1
    replace H := Option.bind_eq_some_iff.mp H
    obtain ⟨⟨t204, t205⟩, A60, H⟩ := H
    replace H : ((usufructlaw13_Small.f k a0_0 a0_1 l0_2).bind fun t206 => (if t206 = 0 then (if t205 = 0 then (if (l1.length : Int) > 20 then (usufructlaw25_BoundCovers.j0 k l1 l2 true a0_0 a0_1 l0_2) else (usufructlaw25_BoundCovers.j0 k l1 l2 (decide ((l2.length : Int) > 20)) a0_0 a0_1 l0_2)) else (usufructlaw25_BoundCovers.j0 k l1 l2 true a0_0 a0_1 l0_2)) else (usufructlaw25_BoundCovers.j0 k l1 l2 true a0_0 a0_1 l0_2))) = some r := H
    have A6 := ak_ A60
    clear A60
    have HC7 := ak_ H
    clear H
    go_enter Try.func4, Try.ntmps4
    go_upto_region 4 with (first | ((with_reducible refine gate_dst (N := 3) rfl ?_); (try (refine gate_guard (by rfl) ?_; dsimp only)); refine box_event ?hg (N := 3) ?hd (cs := #[.string a0_0, .int .i64 a0_1, .slice A0_2 l0_2.length c0_2]) (t := 28) ?hr ?_; (case hd => rfl); (case hg => rfl); (case hr => first | (go_simp; done) | (go_simp; rfl)); intro gb202 hg w8 hbox hb; have n0_ := ak_ (Kd.V_below (Kd.V_elderB (by (with_reducible repeat (first | apply Kd.V_alloc | apply Kd.V_drewN | apply Kd.V_drew)); exact HO0_2.out) gb202 (Nat.le_of_eq hg.symm)) hb); have n1_ := ak_ (ps_ (by repeat (first | (with_reducible first | exact HB.out | apply pa_ | apply pd_ | apply p1_) | exact HB.out)) hb); have n2_ := ak_ (hbox); have n3_ := ak_ ((by rw [hg]; exact (below_size (by repeat (first | (with_reducible first | exact HB.out | apply pa_ | apply pd_ | apply p1_) | exact HB.out))) : w.heap.size ≤ gb202)); have n4_ := ak_ ((by rw [hg]; exact (below_size (by repeat (first | (with_reducible first | exact HB.out | apply pa_ | apply pd_ | apply p1_) | exact HB.out))) : w.heap.size ≤ gb202)); clear HO0_2; clear HB; have HO0_2 := n0_; have HB := n1_; have BK202 := n2_; have GW202 := n3_; have GE202 := n4_; clear n0_ n1_ n2_ n3_ n4_; clear hb hbox hg) | ((with_reducible refine gate_callee (f := 5) rfl ?_); refine goesL_ (some 13) rfl rfl Try.func5 (by kernel_rfl) rfl #[] rfl (by simp only [mt_, mc_, mn_] <;> rfl) ?_; (with_reducible refine (usufructlaw25_awake.calls  true _ A4.out).mono ?_); rintro e w9 ⟨rfl, hb⟩; refine ⟨_, rfl, ?_⟩; have n0_ := ak_ (Kd.V_below (by (with_reducible repeat (first | apply Kd.V_alloc | apply Kd.V_drewN | apply Kd.V_drew)); exact HO0_2.out) hb); have n1_ := ak_ (blk_below (g := gb202) (o := .cells #[.string a0_0, .int .i64 a0_1, .slice A0_2 l0_2.length c0_2] 28 (0, 0)) (by (with_reducible repeat (first | apply zn_ | apply zd_ | apply za_)); exact BK202.out) hb); have n2_ := ak_ (ps_ (by repeat (first | (with_reducible first | exact HB.out | apply pa_ | apply pd_ | apply p1_ | refine zs_ ?_ GE202.out) | exact HB.out)) hb); clear HO0_2; clear BK202; clear HB; have HO0_2 := n0_; have BK202 := n1_; have HB := n2_; clear n0_ n1_ n2_; (try clear hb hk hi); have hcz10_0 : w9.cell? ⟨gb202, 0, none⟩ = some (.string a0_0) := (zc_ BK202.out 0).trans rfl; have hcz10_1 : w9.cell? ⟨gb202, 1, none⟩ = some (.int .i64 a0_1) := (zc_ BK202.out 1).trans rfl; have hcz10_2 : w9.cell? ⟨gb202, 2, none⟩ = some (.slice A0_2 l0_2.length c0_2) := (zc_ BK202.out 2).trans rfl; have hfz10_0 := zf_ BK202.out 0; have hfz10_1 := zf_ BK202.out 1; have hfz10_2 := zf_ BK202.out 2) | ((with_reducible refine gate_callee (f := 20) rfl ?_); refine goesL_ (some 17) rfl rfl Try.func20 (by kernel_rfl) rfl #[.agg #[.string a0_0, .int .i64 a0_1, .slice A0_2 l0_2.length c0_2]] rfl (by (try simp only [List.map_toArray, List.map_cons, List.map_nil]); first | done | rfl | (simp only [List.length_drop, List.length_take]; rfl)) ?_; (with_reducible refine (usufructref13_Check.calls k a0_0 a0_1 _ _ l0_2 t204 t205 _ ?side1 ?side2 A6.out).mono ?_); (case side1 => repeat (first | exact (Kd.V_reads' HO0_2.out).2.2 | (with_reducible refine Kd.C_alloc ?_ _) | (with_reducible refine Kd.C_drewN ?_ _) | (with_reducible refine Kd.C_drew ?_))); (case side2 => exact (Kd.V_reads' HO0_2.out).2.1); rintro e w11 ⟨rfl, hb⟩; refine ⟨_, rfl, ?_⟩; have n0_ := ak_ (Kd.V_below (by (with_reducible repeat (first | apply Kd.V_alloc | apply Kd.V_drewN | apply Kd.V_drew)); exact HO0_2.out) hb); have n1_ := ak_ (blk_below (g := gb202) (o := .cells #[.string a0_0, .int .i64 a0_1, .slice A0_2 l0_2.length c0_2] 28 (0, 0)) (by (with_reducible repeat (first | apply zn_ | apply zd_ | apply za_)); exact BK202.out) hb); have n2_ := ak_ (ps_ (by repeat (first | (with_reducible first | exact HB.out | apply pa_ | apply pd_ | apply p1_ | refine zs_ ?_ GE202.out) | exact HB.out)) hb); clear HO0_2; clear BK202; clear HB; have HO0_2 := n0_; have BK202 := n1_; have HB := n2_; clear n0_ n1_ n2_; (try clear hb hk hi)))
    (try simp only [Act.put, sa_, sz_, ss_])
    go_cut [36] (fun v36 wc => ∃ (kq : Nat) (x36_6 : Bool), v36 = .bool x36_6 ∧ Aside0 (usufructlaw25_BoundCovers.j0 kq l1 l2 x36_6 a0_0 a0_1 l0_2 = some r) ∧ Aside0 (kq ≤ k) ∧ Aside0 (Kd.V k49 49 wc w.heap.size (fun k_ => (P0_2_ k_ ∨ w.heap.size ≤ k_) ∧ k_ ≠ gb202) (.slice A0_2 l0_2.length c0_2) l0_2) ∧ Aside0 (wc.heap[gb202]? = some (.cells #[.string a0_0, .int .i64 a0_1, (.slice A0_2 l0_2.length c0_2)] 28 (0, 0))) ∧ Aside0 (Below w.heap.size w wc))
    case first =>
      have H := HC7.out
      clear HC7
      replace H := Option.bind_eq_some_iff.mp H
      obtain ⟨t206, A120, H⟩ := H
      replace H : (if t206 = 0 then (if t205 = 0 then (if (l1.length : Int) > 20 then (usufructlaw25_BoundCovers.j0 k l1 l2 true a0_0 a0_1 l0_2) else (usufructlaw25_BoundCovers.j0 k l1 l2 (decide ((l2.length : Int) > 20)) a0_0 a0_1 l0_2)) else (usufructlaw25_BoundCovers.j0 k l1 l2 true a0_0 a0_1 l0_2)) else (usufructlaw25_BoundCovers.j0 k l1 l2 true a0_0 a0_1 l0_2)) = some r := H
      have A12 := ak_ A120
      clear A120
      by_cases c13 : t206 = 0
      · rw [if_pos c13] at H
        have c13b0 : (t206 == 0) = true := beq_iff_eq.mpr c13
        have c13b1 : (t206 != 0) = false := bne_eq_false_iff_eq.mpr c13
        clear c13
        (first | rw [c13b0] | (simp only [i64_w, i32_w]; rw [c13b0]) | skip)
        by_cases c14 : t205 = 0
        · rw [if_pos c14] at H
          have c14b0 : (t205 == 0) = true := beq_iff_eq.mpr c14
          have c14b1 : (t205 != 0) = false := bne_eq_false_iff_eq.mpr c14
          clear c14
          by_cases c15 : (l1.length : Int) > 20
          · rw [if_pos c15] at H
            have c15b0 : decide (20 < (l1.length : Int)) = true := decide_eq_true c15
            have c15b1 : decide (20 < l1.length) = true := decide_eq_true (by omega)
            clear c15
            have H' := ak_ H
            clear H
            have hcz16_0 : w11.cell? ⟨gb202, 0, none⟩ = some (.string a0_0) := (zc_ BK202.out 0).trans rfl
            have hcz16_1 : w11.cell? ⟨gb202, 1, none⟩ = some (.int .i64 a0_1) := (zc_ BK202.out 1).trans rfl
            have hcz16_2 : w11.cell? ⟨gb202, 2, none⟩ = some (.slice A0_2 l0_2.length c0_2) := (zc_ BK202.out 2).trans rfl
            have hfz16_0 := zf_ BK202.out 0
            have hfz16_1 := zf_ BK202.out 1
            have hfz16_2 := zf_ BK202.out 2
            go_wp2_with (first | ((with_reducible refine gate_callee (f := 7) rfl ?_); refine goesL_ (some 21) rfl rfl Try.func7 (by kernel_rfl) rfl #[.agg #[.string a0_0, .int .i64 a0_1, .slice A0_2 l0_2.length c0_2]] rfl (by (try simp only [List.map_toArray, List.map_cons, List.map_nil]); first | done | rfl | (simp only [List.length_drop, List.length_take]; rfl)) ?_; (with_reducible refine (usufructlaw13_Small.calls k a0_0 a0_1 _ _ l0_2 t206 _ ?side1 ?side2 A12.out).mono ?_); (case side1 => repeat (first | exact (Kd.V_reads' HO0_2.out).2.2 | (with_reducible refine Kd.C_alloc ?_ _) | (with_reducible refine Kd.C_drewN ?_ _) | (with_reducible refine Kd.C_drew ?_))); (case side2 => exact (Kd.V_reads' HO0_2.out).2.1); rintro e w17 ⟨rfl, hb⟩; refine ⟨_, rfl, ?_⟩; have n0_ := ak_ (Kd.V_below (by (with_reducible repeat (first | apply Kd.V_alloc | apply Kd.V_drewN | apply Kd.V_drew)); exact HO0_2.out) hb); have n1_ := ak_ (blk_below (g := gb202) (o := .cells #[.string a0_0, .int .i64 a0_1, .slice A0_2 l0_2.length c0_2] 28 (0, 0)) (by (with_reducible repeat (first | apply zn_ | apply zd_ | apply za_)); exact BK202.out) hb); have n2_ := ak_ (ps_ (by repeat (first | (with_reducible first | exact HB.out | apply pa_ | apply pd_ | apply p1_ | refine zs_ ?_ GE202.out) | exact HB.out)) hb); clear HO0_2; clear BK202; clear HB; have HO0_2 := n0_; have BK202 := n1_; have HB := n2_; clear n0_ n1_ n2_; (try clear hb hk hi)))
            go_meet
            case rel => exact ⟨_, (true), (by first | rfl | (simp; done) | (simp [*]; done)), H', ⟨by first | omega | exact Nat.le_refl _⟩, ⟨by (with_reducible repeat (first | apply Kd.V_alloc | apply Kd.V_drewN | apply Kd.V_drew)); exact HO0_2.out⟩, ⟨by (with_reducible repeat (first | apply zn_ | apply zd_ | apply za_)); exact BK202.out⟩, ⟨by repeat (first | (with_reducible first | exact HB.out | apply pa_ | apply pd_ | apply p1_ | refine zs_ ?_ GE202.out) | exact HB.out)⟩⟩
          rw [if_neg c15] at H
          have c15b0 : decide (20 < (l1.length : Int)) = false := decide_eq_false c15
          have c15b1 : decide (20 < l1.length) = false := decide_eq_false (by omega)
          clear c15
          have H' := ak_ H
          clear H
          have hcz18_0 : w11.cell? ⟨gb202, 0, none⟩ = some (.string a0_0) := (zc_ BK202.out 0).trans rfl
          have hcz18_1 : w11.cell? ⟨gb202, 1, none⟩ = some (.int .i64 a0_1) := (zc_ BK202.out 1).trans rfl
          have hcz18_2 : w11.cell? ⟨gb202, 2, none⟩ = some (.slice A0_2 l0_2.length c0_2) := (zc_ BK202.out 2).trans rfl
          have hfz18_0 := zf_ BK202.out 0
          have hfz18_1 := zf_ BK202.out 1
          have hfz18_2 := zf_ BK202.out 2
          go_wp2_with (first | ((with_reducible refine gate_callee (f := 7) rfl ?_); refine goesL_ (some 21) rfl rfl Try.func7 (by kernel_rfl) rfl #[.agg #[.string a0_0, .int .i64 a0_1, .slice A0_2 l0_2.length c0_2]] rfl (by (try simp only [List.map_toArray, List.map_cons, List.map_nil]); first | done | rfl | (simp only [List.length_drop, List.length_take]; rfl)) ?_; (with_reducible refine (usufructlaw13_Small.calls k a0_0 a0_1 _ _ l0_2 t206 _ ?side1 ?side2 A12.out).mono ?_); (case side1 => repeat (first | exact (Kd.V_reads' HO0_2.out).2.2 | (with_reducible refine Kd.C_alloc ?_ _) | (with_reducible refine Kd.C_drewN ?_ _) | (with_reducible refine Kd.C_drew ?_))); (case side2 => exact (Kd.V_reads' HO0_2.out).2.1); rintro e w19 ⟨rfl, hb⟩; refine ⟨_, rfl, ?_⟩; have n0_ := ak_ (Kd.V_below (by (with_reducible repeat (first | apply Kd.V_alloc | apply Kd.V_drewN | apply Kd.V_drew)); exact HO0_2.out) hb); have n1_ := ak_ (blk_below (g := gb202) (o := .cells #[.string a0_0, .int .i64 a0_1, .slice A0_2 l0_2.length c0_2] 28 (0, 0)) (by (with_reducible repeat (first | apply zn_ | apply zd_ | apply za_)); exact BK202.out) hb); have n2_ := ak_ (ps_ (by repeat (first | (with_reducible first | exact HB.out | apply pa_ | apply pd_ | apply p1_ | refine zs_ ?_ GE202.out) | exact HB.out)) hb); clear HO0_2; clear BK202; clear HB; have HO0_2 := n0_; have BK202 := n1_; have HB := n2_; clear n0_ n1_ n2_; (try clear hb hk hi)))
          go_meet
          case rel => exact ⟨_, (decide ((l2.length : Int) > 20)), (by first | rfl | (simp; done) | (simp [*]; done)), H', ⟨by first | omega | exact Nat.le_refl _⟩, ⟨by (with_reducible repeat (first | apply Kd.V_alloc | apply Kd.V_drewN | apply Kd.V_drew)); exact HO0_2.out⟩, ⟨by (with_reducible repeat (first | apply zn_ | apply zd_ | apply za_)); exact BK202.out⟩, ⟨by repeat (first | (with_reducible first | exact HB.out | apply pa_ | apply pd_ | apply p1_ | refine zs_ ?_ GE202.out) | exact HB.out)⟩⟩
        rw [if_neg c14] at H
        have c14b0 : (t205 == 0) = false := beq_eq_false_iff_ne.mpr c14
        have c14b1 : (t205 != 0) = true := bne_iff_ne.mpr c14
        have H' := ak_ H
        clear H
        have hcz20_0 : w11.cell? ⟨gb202, 0, none⟩ = some (.string a0_0) := (zc_ BK202.out 0).trans rfl
        have hcz20_1 : w11.cell? ⟨gb202, 1, none⟩ = some (.int .i64 a0_1) := (zc_ BK202.out 1).trans rfl
        have hcz20_2 : w11.cell? ⟨gb202, 2, none⟩ = some (.slice A0_2 l0_2.length c0_2) := (zc_ BK202.out 2).trans rfl
        have hfz20_0 := zf_ BK202.out 0
        have hfz20_1 := zf_ BK202.out 1
        have hfz20_2 := zf_ BK202.out 2
        go_wp2_with (first | ((with_reducible refine gate_callee (f := 7) rfl ?_); refine goesL_ (some 21) rfl rfl Try.func7 (by kernel_rfl) rfl #[.agg #[.string a0_0, .int .i64 a0_1, .slice A0_2 l0_2.length c0_2]] rfl (by (try simp only [List.map_toArray, List.map_cons, List.map_nil]); first | done | rfl | (simp only [List.length_drop, List.length_take]; rfl)) ?_; (with_reducible refine (usufructlaw13_Small.calls k a0_0 a0_1 _ _ l0_2 t206 _ ?side1 ?side2 A12.out).mono ?_); (case side1 => repeat (first | exact (Kd.V_reads' HO0_2.out).2.2 | (with_reducible refine Kd.C_alloc ?_ _) | (with_reducible refine Kd.C_drewN ?_ _) | (with_reducible refine Kd.C_drew ?_))); (case side2 => exact (Kd.V_reads' HO0_2.out).2.1); rintro e w21 ⟨rfl, hb⟩; refine ⟨_, rfl, ?_⟩; have n0_ := ak_ (Kd.V_below (by (with_reducible repeat (first | apply Kd.V_alloc | apply Kd.V_drewN | apply Kd.V_drew)); exact HO0_2.out) hb); have n1_ := ak_ (blk_below (g := gb202) (o := .cells #[.string a0_0, .int .i64 a0_1, .slice A0_2 l0_2.length c0_2] 28 (0, 0)) (by (with_reducible repeat (first | apply zn_ | apply zd_ | apply za_)); exact BK202.out) hb); have n2_ := ak_ (ps_ (by repeat (first | (with_reducible first | exact HB.out | apply pa_ | apply pd_ | apply p1_ | refine zs_ ?_ GE202.out) | exact HB.out)) hb); clear HO0_2; clear BK202; clear HB; have HO0_2 := n0_; have BK202 := n1_; have HB := n2_; clear n0_ n1_ n2_; (try clear hb hk hi)))
        go_meet
        case rel => exact ⟨_, (true), (by first | rfl | (simp; done) | (simp [*]; done)), H', ⟨by first | omega | exact Nat.le_refl _⟩, ⟨by (with_reducible repeat (first | apply Kd.V_alloc | apply Kd.V_drewN | apply Kd.V_drew)); exact HO0_2.out⟩, ⟨by (with_reducible repeat (first | apply zn_ | apply zd_ | apply za_)); exact BK202.out⟩, ⟨by repeat (first | (with_reducible first | exact HB.out | apply pa_ | apply pd_ | apply p1_ | refine zs_ ?_ GE202.out) | exact HB.out)⟩⟩
      rw [if_neg c13] at H
      have c13b0 : (t206 == 0) = false := beq_eq_false_iff_ne.mpr c13
      have c13b1 : (t206 != 0) = true := bne_iff_ne.mpr c13
      (first | rw [c13b0] | (simp only [i64_w, i32_w]; rw [c13b0]) | skip)
      have H' := ak_ H
      clear H
      have hcz22_0 : w11.cell? ⟨gb202, 0, none⟩ = some (.string a0_0) := (zc_ BK202.out 0).trans rfl
      have hcz22_1 : w11.cell? ⟨gb202, 1, none⟩ = some (.int .i64 a0_1) := (zc_ BK202.out 1).trans rfl
      have hcz22_2 : w11.cell? ⟨gb202, 2, none⟩ = some (.slice A0_2 l0_2.length c0_2) := (zc_ BK202.out 2).trans rfl
      have hfz22_0 := zf_ BK202.out 0
      have hfz22_1 := zf_ BK202.out 1
      have hfz22_2 := zf_ BK202.out 2
      go_wp2_with (first | ((with_reducible refine gate_callee (f := 7) rfl ?_); refine goesL_ (some 21) rfl rfl Try.func7 (by kernel_rfl) rfl #[.agg #[.string a0_0, .int .i64 a0_1, .slice A0_2 l0_2.length c0_2]] rfl (by (try simp only [List.map_toArray, List.map_cons, List.map_nil]); first | done | rfl | (simp only [List.length_drop, List.length_take]; rfl)) ?_; (with_reducible refine (usufructlaw13_Small.calls k a0_0 a0_1 _ _ l0_2 t206 _ ?side1 ?side2 A12.out).mono ?_); (case side1 => repeat (first | exact (Kd.V_reads' HO0_2.out).2.2 | (with_reducible refine Kd.C_alloc ?_ _) | (with_reducible refine Kd.C_drewN ?_ _) | (with_reducible refine Kd.C_drew ?_))); (case side2 => exact (Kd.V_reads' HO0_2.out).2.1); rintro e w23 ⟨rfl, hb⟩; refine ⟨_, rfl, ?_⟩; have n0_ := ak_ (Kd.V_below (by (with_reducible repeat (first | apply Kd.V_alloc | apply Kd.V_drewN | apply Kd.V_drew)); exact HO0_2.out) hb); have n1_ := ak_ (blk_below (g := gb202) (o := .cells #[.string a0_0, .int .i64 a0_1, .slice A0_2 l0_2.length c0_2] 28 (0, 0)) (by (with_reducible repeat (first | apply zn_ | apply zd_ | apply za_)); exact BK202.out) hb); have n2_ := ak_ (ps_ (by repeat (first | (with_reducible first | exact HB.out | apply pa_ | apply pd_ | apply p1_ | refine zs_ ?_ GE202.out) | exact HB.out)) hb); clear HO0_2; clear BK202; clear HB; have HO0_2 := n0_; have BK202 := n1_; have HB := n2_; clear n0_ n1_ n2_; (try clear hb hk hi)))
      go_meet
      case rel => exact ⟨_, (true), (by first | rfl | (simp; done) | (simp [*]; done)), H', ⟨by first | omega | exact Nat.le_refl _⟩, ⟨by (with_reducible repeat (first | apply Kd.V_alloc | apply Kd.V_drewN | apply Kd.V_drew)); exact HO0_2.out⟩, ⟨by (with_reducible repeat (first | apply zn_ | apply zd_ | apply za_)); exact BK202.out⟩, ⟨by repeat (first | (with_reducible first | exact HB.out | apply pa_ | apply pd_ | apply p1_ | refine zs_ ?_ GE202.out) | exact HB.out)⟩⟩
    case rest =>
      clear HC7
      try clear c1
      try clear c2
      try clear p2
      try clear c4
      try clear c5
      try clear c7
      try clear c13
      try clear c13b0
      try clear c13b1
      try clear c14
      try clear c14b0
      try clear c14b1
      try clear c15
      try clear c15b0
      try clear c15b1
      try clear c20
      try clear hcz10_0
      try clear hcz10_1
      try clear hcz10_2
      try clear hcz16_0
      try clear hcz16_1
      try clear hcz16_2
      try clear hcz18_0
      try clear hcz18_1
      try clear hcz18_2
      try clear hcz20_0
      try clear hcz20_1
      try clear hcz20_2
      try clear hcz22_0
      try clear hcz22_1
      try clear hcz22_2
      try clear hfz10_0
      try clear hfz10_1
      try clear hfz10_2
      try clear hfz16_0
      try clear hfz16_1
      try clear hfz16_2
      try clear hfz18_0
      try clear hfz18_1
      try clear hfz18_2
      try clear hfz20_0
      try clear hfz20_1
      try clear hfz20_2
      try clear hfz22_0
      try clear hfz22_1
      try clear hfz22_2
      obtain ⟨kq, x36_6, rfl, HA, HJ6, HO_203002, BK202, HB⟩ := hcut
      cases kq with
      | zero => exact absurd HA.out (by simp [usufructlaw25_BoundCovers.j0])
      | succ kj6 =>
        have H := HA.out
        clear HA
        simp only [usufructlaw25_BoundCovers.j0] at H
        by_cases c24 : x36_6 = true
        · subst c24
          have H1 : (some true) = some r := by rw [if_pos rfl] at H; exact H
          clear H
          have H := H1
          clear H1
          obtain rfl := Option.some.inj H
          go_wp2
          go_ret
          exact ⟨by first | rfl | (simp [errW_none, errW_some] <;> rfl) | (simp [*, errW_none, errW_some] <;> rfl), by repeat (first | (with_reducible first | exact HB.out | apply pa_ | apply pd_ | apply p1_ | refine zs_ ?_ GE202.out) | exact HB.out)⟩
        replace c24 := Bool.eq_false_iff.mpr c24
        subst c24
        have H1 : ((some (([(⟨a0_0, a0_1, l0_2⟩ : S28)] : List (S28)) : List (S28))).bind fun y207 => ((bound_Ticks.f y207 ([] : List (S44)) (l2.length : Int) l1).bind fun t211 => (usufructlaw25_BoundCovers.l0 kj6 l1 l2 t211 0 a0_0 a0_1 l0_2 y207 ([] : List (S44)) (l2.length : Int)))) = some r := by rw [if_neg (show ¬ (false = true) by decide)] at H; exact H
        clear H
        have H := H1
        clear H1
        obtain ⟨y207, hy207⟩ : ∃ y_ : List (S28), y_ = (([(⟨a0_0, a0_1, l0_2⟩ : S28)] : List (S28))) := ⟨_, rfl⟩
        replace H : ((bound_Ticks.f y207 ([] : List (S44)) (l2.length : Int) l1).bind fun t211 => (usufructlaw25_BoundCovers.l0 kj6 l1 l2 t211 0 a0_0 a0_1 l0_2 y207 ([] : List (S44)) (l2.length : Int))) = some r := by first | (rw [hy207]; with_reducible exact H) | (have H2_ := (Option.bind_some _ _).symm.trans H; rw [hy207]; with_reducible exact H2_) | (have H2_ := (Option.bind_some _ _).symm.trans H; with_reducible exact H2_) | with_reducible exact H | (rw [hy207]; exact H) | exact H
        have Ny207 := ak_ hy207
        clear hy207
        replace H := Option.bind_eq_some_iff.mp H
        obtain ⟨t211, A250, H⟩ := H
        replace H : (usufructlaw25_BoundCovers.l0 kj6 l1 l2 t211 0 a0_0 a0_1 l0_2 y207 ([] : List (S44)) (l2.length : Int)) = some r := H
        have A25 := ak_ A250
        clear A250
        have H' := ak_ H
        clear H
        have hcz26_0 : wc.cell? ⟨gb202, 0, none⟩ = some (.string a0_0) := (zc_ BK202.out 0).trans rfl
        have hcz26_1 : wc.cell? ⟨gb202, 1, none⟩ = some (.int .i64 a0_1) := (zc_ BK202.out 1).trans rfl
        have hcz26_2 : wc.cell? ⟨gb202, 2, none⟩ = some (.slice A0_2 l0_2.length c0_2) := (zc_ BK202.out 2).trans rfl
        have hfz26_0 := zf_ BK202.out 0
        have hfz26_1 := zf_ BK202.out 1
        have hfz26_2 := zf_ BK202.out 2
        go_wp2_with (first | ((with_reducible refine gate_dst (N := 38) rfl ?_); (try (refine gate_guard (by rfl) ?_; dsimp only)); refine Kd.N_lit k28 _ 28 ?hg (N' := 38) ?hd (xs := ([(⟨a0_0, a0_1, l0_2⟩ : S28)] : List (S28))) (inner := [.string a0_0, .int .i64 a0_1, .slice A0_2 l0_2.length c0_2]) (ok := (fun k_ => (P0_2_ k_ ∨ w.heap.size ≤ k_) ∧ k_ ≠ gb202)) (okp := (fun k_ => (P0_2_ k_ ∨ w.heap.size ≤ k_) ∧ k_ ≠ gb202)) ?hr ?hp (fun _ hk => hk) ((show ∀ k_, wc.heap.size ≤ k_ → (fun k_ => (P0_2_ k_ ∨ w.heap.size ≤ k_) ∧ k_ ≠ gb202) k_ from fun k_ hk => ⟨(.inr (Nat.le_trans (below_size (by repeat (first | (with_reducible first | exact HB.out | apply pa_ | apply pd_ | apply p1_ | refine zs_ ?_ GE202.out) | exact HB.out))) hk)), Kd.freshB (g := gb202) (o := .cells #[.string a0_0, .int .i64 a0_1, .slice A0_2 l0_2.length c0_2] 28 (0, 0)) (by (with_reducible repeat (first | apply zn_ | apply zd_ | apply za_)); exact BK202.out) k_ hk⟩) _ (Nat.le_refl _)) (Below.refl _ _) (Nat.le_refl _) (by simp) ?_; (case hd => rfl); (case hg => rfl); (case hr => first | (go_simp; done) | (go_simp; rfl)); (case hp => exact (Reps.c3 (show Kd.FK k28 _ _ (⟨a0_0, a0_1, l0_2⟩ : S28) [.string a0_0, .int .i64 a0_1, .slice A0_2 l0_2.length c0_2] from (k28_mkF _ _ (⟨a0_0, a0_1, l0_2⟩ : S28) (Kd.V_reads' (Kd.V_mono (ok' := (fun k_ => (P0_2_ k_ ∨ w.heap.size ≤ k_) ∧ k_ ≠ gb202)) (HO_203002.out) (fun k_ hk => ⟨hk.1, hk.2⟩))).2.1 (Kd.V_F (e := 0) (base := 0) (Kd.V_mono (e := 0) (base := 0) (ok' := (fun k_ => (P0_2_ k_ ∨ w.heap.size ≤ k_) ∧ k_ ≠ gb202)) (HO_203002.out) (fun k_ hk => ⟨hk.1, hk.2⟩))))) (Reps.none _ _))); intro v208 w27 ho28 hb hg_ hnew_; clear hg_ hnew_; (first | rw [← Ny207.out] at ho28 | (simp only [Int.reduceToNat] at ho28; rw [← Ny207.out] at ho28)); have n0_ := ak_ (Kd.V_elder' (by (with_reducible repeat (first | apply Kd.V_alloc | apply Kd.V_drewN | apply Kd.V_drew)); exact HO_203002.out) (Kd.N_base ho28) hb); have n1_ := ak_ (Kd.N_lower ho28 (below_size (by repeat (first | (with_reducible first | exact HB.out | apply pa_ | apply pd_ | apply p1_ | refine zs_ ?_ GE202.out) | exact HB.out)))); have n2_ := ak_ (blk_below (g := gb202) (o := .cells #[.string a0_0, .int .i64 a0_1, .slice A0_2 l0_2.length c0_2] 28 (0, 0)) (by (with_reducible repeat (first | apply zn_ | apply zd_ | apply za_)); exact BK202.out) hb); have n3_ := ak_ (ps_ (by repeat (first | (with_reducible first | exact HB.out | apply pa_ | apply pd_ | apply p1_ | refine zs_ ?_ GE202.out) | exact HB.out)) hb); clear HO_203002; clear BK202; clear HB; have HO_203002 := n0_; have HO209 := n1_; have BK202 := n2_; have HB := n3_; clear n0_ n1_ n2_ n3_; clear hb ho28; obtain ⟨Ao29, co29, eo29⟩ := Kd.N_slice HO209.out; subst eo29) | ((with_reducible refine gate_dst (N := 9) rfl ?_); (try (refine gate_guard (by rfl) ?_; dsimp only)); refine box_event ?hg (N := 9) ?hd (cs := #[.slice none 0 0, .slice none 0 0, .int .i64 0]) (t := 25) ?hr ?_; (case hd => rfl); (case hg => rfl); (case hr => first | (go_simp; done) | (go_simp; rfl)); intro gb210 hg w30 hbox hb; have n0_ := ak_ (Kd.V_below (Kd.V_elderB (by (with_reducible repeat (first | apply Kd.V_alloc | apply Kd.V_drewN | apply Kd.V_drew)); exact HO_203002.out) gb210 (Nat.le_of_eq hg.symm)) hb); have n1_ := ak_ (Kd.N_below (Kd.N_elderB (by (with_reducible repeat (first | apply Kd.N_alloc | apply Kd.N_drewN | apply Kd.N_drew)); exact HO209.out) gb210 (Nat.le_of_eq hg.symm)) hb); have n2_ := ak_ (blk_below (g := gb202) (o := .cells #[.string a0_0, .int .i64 a0_1, .slice A0_2 l0_2.length c0_2] 28 (0, 0)) (by (with_reducible repeat (first | apply zn_ | apply zd_ | apply za_)); exact BK202.out) hb); have n3_ := ak_ (ps_ (by repeat (first | (with_reducible first | exact HB.out | apply pa_ | apply pd_ | apply p1_ | refine zs_ ?_ GE202.out) | exact HB.out)) hb); have n4_ := ak_ (hbox); have n5_ := ak_ ((by rw [hg]; exact (below_size (by repeat (first | (with_reducible first | exact HB.out | apply pa_ | apply pd_ | apply p1_ | refine zs_ ?_ GE202.out) | exact HB.out))) : w.heap.size ≤ gb210)); have n6_ := ak_ ((by rw [hg]; exact (below_size (by repeat (first | (with_reducible first | exact HB.out | apply pa_ | apply pd_ | apply p1_ | refine zs_ ?_ GE202.out) | exact HB.out))) : w.heap.size ≤ gb210)); have n7_ := ak_ ((by rw [hg]; exact Nat.ne_of_lt (blk_lt (g := gb202) (o := .cells #[.string a0_0, .int .i64 a0_1, .slice A0_2 l0_2.length c0_2] 28 (0, 0)) (by (with_reducible repeat (first | apply zn_ | apply zd_ | apply za_)); exact BK202.out)) : gb202 ≠ gb210)); have n8_ := ak_ ((by rw [hg]; exact Nat.ne_of_gt (blk_lt (g := gb202) (o := .cells #[.string a0_0, .int .i64 a0_1, .slice A0_2 l0_2.length c0_2] 28 (0, 0)) (by (with_reducible repeat (first | apply zn_ | apply zd_ | apply za_)); exact BK202.out)) : gb210 ≠ gb202)); clear HO_203002; clear HO209; clear BK202; clear HB; have HO_203002 := n0_; have HO209 := n1_; have BK202 := n2_; have HB := n3_; have BK210 := n4_; have GW210 := n5_; have GE210 := n6_; have NB202_210 := n7_; have NB210_202 := n8_; clear n0_ n1_ n2_ n3_ n4_ n5_ n6_ n7_ n8_; clear hb hbox hg; have hnb31 := NB210_202.out; have hnc31 := NB202_210.out; have hcz32_0 : w30.cell? ⟨gb210, 0, none⟩ = some (.slice none 0 0) := (zc_ BK210.out 0).trans rfl; have hcz32_1 : w30.cell? ⟨gb210, 1, none⟩ = some (.slice none 0 0) := (zc_ BK210.out 1).trans rfl; have hcz32_2 : w30.cell? ⟨gb210, 2, none⟩ = some (.int .i64 0) := (zc_ BK210.out 2).trans rfl; have hfz32_0 := zf_ BK210.out 0; have hfz32_1 := zf_ BK210.out 1; have hfz32_2 := zf_ BK210.out 2) | ((with_reducible refine gate_callee (f := 17) rfl ?_); refine goesL_ (some 44) rfl rfl Try.func17 (by kernel_rfl) rfl #[.agg #[.slice Ao29 y207.length co29, .slice none 0 0, .int .i64 (l2.length : Int)], .slice A1 l1.length c1] rfl (by (try simp only [List.map_toArray, List.map_cons, List.map_nil]); first | done | rfl | (simp only [List.length_drop, List.length_take]; rfl)) ?_; (refine (bound_Ticks.calls _ _ y207 _ _ ([] : List (S44)) (l2.length : Int) _ _ l1 t211 _ ?side1 ?side2 ?side3 ?side4 ?side5 ?side6 A25.out).mono ?_); (case side1 => refine (Kd.N_reads' (e := 28) (base := w.heap.size) (ok := fun k_ => (((P0_2_ k_ ∨ w.heap.size ≤ k_) ∧ k_ ≠ gb202) ∧ k_ ≠ gb210)) (n := y207.length) (c := co29) ?_).2.2; exact (by (with_reducible repeat (first | apply Kd.N_alloc | apply Kd.N_drewN | apply Kd.N_drew)); exact (Kd.N_mono (Kd.N_far (p := ⟨gb210, 2, none⟩) (Kd.N_far (p := ⟨gb210, 1, none⟩) (Kd.N_far (p := ⟨gb210, 0, none⟩) (Kd.N_mono HO209.out (fun k_ hk => (⟨hk, hk.2⟩ : _ ∧ k_ ≠ gb210))) (fun _ hk => hk.2) (.slice Ao29 y207.length co29)) (fun _ hk => hk.2) (.slice none 0 0)) (fun _ hk => hk.2) (.int .i64 (l2.length : Int))) (fun _ h_ => h_.1)))); (case side2 => exact (Kd.N_reads' HO209.out).2.1); (case side3 => exact Kd.C_nil _ _); (case side4 => exact Nat.le_refl _); (case side5 => exact Kd.C_below HR1.out (by repeat (first | (with_reducible first | exact HB.out | apply pa_ | apply pd_ | apply p1_ | refine zs_ ?_ GE202.out | refine zs_ ?_ GE210.out) | exact HB.out))); (case side6 => exact HC1.out); rintro e w33 ⟨rfl, hb⟩; refine ⟨_, rfl, ?_⟩; have n0_ := ak_ (Kd.V_below (by (with_reducible repeat (first | apply Kd.V_alloc | apply Kd.V_drewN | apply Kd.V_drew)); exact (Kd.V_mono (Kd.V_far (p := ⟨gb210, 2, none⟩) (Kd.V_far (p := ⟨gb210, 1, none⟩) (Kd.V_far (p := ⟨gb210, 0, none⟩) (Kd.V_mono HO_203002.out (fun k_ hk => (⟨hk, hk.2⟩ : _ ∧ k_ ≠ gb210))) (fun _ hk => hk.2) (.slice Ao29 y207.length co29)) (fun _ hk => hk.2) (.slice none 0 0)) (fun _ hk => hk.2) (.int .i64 (l2.length : Int))) (fun _ h_ => h_.1))) hb); have n1_ := ak_ (Kd.N_below (by (with_reducible repeat (first | apply Kd.N_alloc | apply Kd.N_drewN | apply Kd.N_drew)); exact (Kd.N_mono (Kd.N_far (p := ⟨gb210, 2, none⟩) (Kd.N_far (p := ⟨gb210, 1, none⟩) (Kd.N_far (p := ⟨gb210, 0, none⟩) (Kd.N_mono HO209.out (fun k_ hk => (⟨hk, hk.2⟩ : _ ∧ k_ ≠ gb210))) (fun _ hk => hk.2) (.slice Ao29 y207.length co29)) (fun _ hk => hk.2) (.slice none 0 0)) (fun _ hk => hk.2) (.int .i64 (l2.length : Int))) (fun _ h_ => h_.1))) hb); have n2_ := ak_ (blk_below (g := gb202) (o := .cells #[.string a0_0, .int .i64 a0_1, .slice A0_2 l0_2.length c0_2] 28 (0, 0)) (by (repeat (first | (with_reducible first | apply zn_ | apply zd_ | apply za_) | refine zr_ ?_ NB202_210.out _)); (with_reducible repeat (first | apply zn_ | apply zd_ | apply za_)); exact BK202.out) hb); have n3_ := ak_ (blk_below (g := gb210) (o := .cells #[.slice Ao29 y207.length co29, .slice none 0 0, .int .i64 (l2.length : Int)] 25 (0, 0)) (by (with_reducible repeat (first | apply zn_ | apply zd_ | apply za_)); refine zp_ (cs := #[.slice Ao29 y207.length co29, .slice none 0 0, .int .i64 0]) ?_ 2 _ rfl; (with_reducible repeat (first | apply zn_ | apply zd_ | apply za_)); refine zp_ (cs := #[.slice Ao29 y207.length co29, .slice none 0 0, .int .i64 0]) ?_ 1 _ rfl; (with_reducible repeat (first | apply zn_ | apply zd_ | apply za_)); refine zp_ (cs := #[.slice none 0 0, .slice none 0 0, .int .i64 0]) ?_ 0 _ rfl; (with_reducible repeat (first | apply zn_ | apply zd_ | apply za_)); exact BK210.out) hb); have n4_ := ak_ (ps_ (by repeat (first | (with_reducible first | exact HB.out | apply pa_ | apply pd_ | apply p1_ | refine zs_ ?_ GE202.out | refine zs_ ?_ GE210.out) | exact HB.out)) hb); clear HO_203002; clear HO209; clear BK202; clear BK210; clear HB; have HO_203002 := n0_; have HO209 := n1_; have BK202 := n2_; have BK210 := n3_; have HB := n4_; clear n0_ n1_ n2_ n3_ n4_; (try clear hb hk hi)))
        go_loopg [10, 11] kj6 (fun kq v10 v11 w' => ∃ (x10_2 : Int) (x11_2 : Int) (x211001_2 : List (S44)) (u211001 : Value), v10 = .int .i64 x10_2 ∧ v11 = .int .i64 x11_2 ∧ Aside0 (usufructlaw25_BoundCovers.l0 kq l1 l2 x10_2 x11_2 a0_0 a0_1 l0_2 y207 x211001_2 (l2.length : Int) = some r) ∧ Aside0 (kq ≤ kj6) ∧ Aside0 (Kd.V k49 49 w' w.heap.size (fun k_ => (P0_2_ k_ ∨ w.heap.size ≤ k_) ∧ some k_ ≠ ((.slice Ao29 y207.length co29) : Value).ownBlock ∧ some k_ ≠ (u211001 : Value).ownBlock ∧ k_ ≠ gb202 ∧ k_ ≠ gb210) (.slice A0_2 l0_2.length c0_2) l0_2) ∧ Aside0 (Kd.N k28 28 w' w.heap.size (fun k_ => (P0_2_ k_ ∨ w.heap.size ≤ k_) ∧ some k_ ≠ (u211001 : Value).ownBlock ∧ k_ ≠ gb202 ∧ k_ ≠ gb210) (.slice Ao29 y207.length co29) y207) ∧ Aside0 (Kd.R k44 44 w' w.heap.size (fun k_ => (w.heap.size ≤ k_)) u211001 x211001_2) ∧ Aside0 (w'.heap[gb202]? = some (.cells #[.string a0_0, .int .i64 a0_1, (.slice A0_2 l0_2.length c0_2)] 28 (0, 0))) ∧ Aside0 (w'.heap[gb210]? = some (.cells #[(.slice Ao29 y207.length co29), u211001, .int .i64 (l2.length : Int)] 25 (0, 0))) ∧ Aside0 (Below w.heap.size w w'))
        case atStart => exact ⟨(t211), (0), (([] : List (S44))), (.slice none 0 0), (by first | rfl | (simp; done) | (simp [*]; done)), (by first | rfl | (simp; done) | (simp [*]; done)), H', ⟨Nat.le_refl _⟩, ⟨by (with_reducible repeat (first | apply Kd.V_alloc | apply Kd.V_drewN | apply Kd.V_drew)); exact Kd.V_mono HO_203002.out (fun _ hk => ⟨hk.1.1.1, ⟨hk.1.2, ⟨(by simp [Value.ownBlock]), ⟨hk.1.1.2, hk.2⟩⟩⟩⟩)⟩, ⟨by (with_reducible repeat (first | apply Kd.N_alloc | apply Kd.N_drewN | apply Kd.N_drew)); exact Kd.N_mono HO209.out (fun _ hk => ⟨hk.1.1, ⟨(by simp [Value.ownBlock]), ⟨hk.1.2, hk.2⟩⟩⟩)⟩, ⟨by first | exact Kd.R_nil _ _ _ _ _ | exact Kd.N_nil _ _ _ _ _ | exact Kd.V_nil _ _ _ _ _ | exact Kd.Q_nil _ _ _ _ _ | exact Kd.S_nil _ _ _ _ _⟩, ⟨by (with_reducible repeat (first | apply zn_ | apply zd_ | apply za_)); exact BK202.out⟩, ⟨by (with_reducible repeat (first | apply zn_ | apply zd_ | apply za_)); exact BK210.out⟩, ⟨by repeat (first | (with_reducible first | exact HB.out | apply pa_ | apply pd_ | apply p1_ | refine zs_ ?_ GE202.out | refine zs_ ?_ GE210.out) | exact HB.out)⟩⟩
        case round =>
          clear H'
          try clear c1
          try clear c2
          try clear p2
          try clear c3
          try clear c4
          try clear c5
          try clear c7
          try clear c13
          try clear c13b0
          try clear c13b1
          try clear c14
          try clear c14b0
          try clear c14b1
          try clear c15
          try clear c15b0
          try clear c15b1
          try clear c17
          try clear c20
          try clear c24
          try clear c31
          try clear hcz10_0
          try clear hcz10_1
          try clear hcz10_2
          try clear hcz16_0
          try clear hcz16_1
          try clear hcz16_2
          try clear hcz18_0
          try clear hcz18_1
          try clear hcz18_2
          try clear hcz20_0
          try clear hcz20_1
          try clear hcz20_2
          try clear hcz22_0
          try clear hcz22_1
          try clear hcz22_2
          try clear hcz26_0
          try clear hcz26_1
          try clear hcz26_2
          try clear hcz32_0
          try clear hcz32_1
          try clear hcz32_2
          try clear hfz10_0
          try clear hfz10_1
          try clear hfz10_2
          try clear hfz16_0
          try clear hfz16_1
          try clear hfz16_2
          try clear hfz18_0
          try clear hfz18_1
          try clear hfz18_2
          try clear hfz20_0
          try clear hfz20_1
          try clear hfz20_2
          try clear hfz22_0
          try clear hfz22_1
          try clear hfz22_2
          try clear hfz26_0
          try clear hfz26_1
          try clear hfz26_2
          try clear hfz32_0
          try clear hfz32_1
          try clear hfz32_2
          try clear p2
          obtain ⟨x10_2, x11_2, x211001_2, u211001, rfl, rfl, HA, HK2, HO_203002, HO_211000, HO_211001, BK202, BK210, HB⟩ := hrel
          cases gk with
          | zero => exact absurd HA.out (by simp [usufructlaw25_BoundCovers.l0])
          | succ k2 =>
            have H := HA.out
            clear HA
            simp only [usufructlaw25_BoundCovers.l0] at H
            by_cases c34 : x11_2 < (l2.length : Int)
            · rw [if_pos c34] at H
              have c34b0 : decide (x11_2 < (l2.length : Int)) = true := decide_eq_true c34
              clear c34
              by_cases c35 : 0 ≤ x11_2
              · rw [if_pos c35] at H
                have c35b0 : decide (0 ≤ x11_2) = true := decide_eq_true c35
                clear c35
                by_cases c36 : x211001_2.length < 1759218604441
                · rw [if_pos c36] at H
                  have LMc36 := ak_ c36
                  clear c36
                  obtain ⟨y214, hy214⟩ : ∃ y_ : List (S44), y_ = (x211001_2 ++ [(⟨x11_2, a0_0, 0, wrap64 (Int.tmod (rd l2 x11_2) 6), 0, 0, false, 0, 0⟩ : S44)]) := ⟨_, rfl⟩
                  replace H : ((bound_Ticks.f y207 y214 (l2.length : Int) l1).bind fun t217 => (if t217 < x10_2 then (some false) else ((bound_Live.f y207 y214 (l2.length : Int)).bind fun t218 => ((bound_Total.f a0_0 a0_1 l0_2 l1 t218).bind fun t219 => (if t217 > t219 then (some false) else ((bound_Live.f y207 y214 (l2.length : Int)).bind fun t220 => (if t220 > (y214.length : Int) then (some false) else (usufructlaw25_BoundCovers.l0 k2 l1 l2 t217 (wrap64 (x11_2 + 1)) a0_0 a0_1 l0_2 y207 y214 (l2.length : Int))))))))) = some r := by first | (rw [hy214]; with_reducible exact H) | (have H2_ := (Option.bind_some _ _).symm.trans H; rw [hy214]; with_reducible exact H2_) | (have H2_ := (Option.bind_some _ _).symm.trans H; with_reducible exact H2_) | with_reducible exact H | (rw [hy214]; exact H) | exact H
                  have Ny214 := ak_ hy214
                  clear hy214
                  replace H := Option.bind_eq_some_iff.mp H
                  obtain ⟨t217, A370, H⟩ := H
                  replace H : (if t217 < x10_2 then (some false) else ((bound_Live.f y207 y214 (l2.length : Int)).bind fun t218 => ((bound_Total.f a0_0 a0_1 l0_2 l1 t218).bind fun t219 => (if t217 > t219 then (some false) else ((bound_Live.f y207 y214 (l2.length : Int)).bind fun t220 => (if t220 > (y214.length : Int) then (some false) else (usufructlaw25_BoundCovers.l0 k2 l1 l2 t217 (wrap64 (x11_2 + 1)) a0_0 a0_1 l0_2 y207 y214 (l2.length : Int)))))))) = some r := H
                  have A37 := ak_ A370
                  clear A370
                  by_cases c38 : t217 < x10_2
                  · rw [if_pos c38] at H
                    have c38b0 : decide (t217 < x10_2) = true := decide_eq_true c38
                    clear c38
                    exact absurd ((Option.some.inj H).trans HTR_.out) (by decide)
                  rw [if_neg c38] at H
                  have c38b0 : decide (t217 < x10_2) = false := decide_eq_false c38
                  clear c38
                  replace H := Option.bind_eq_some_iff.mp H
                  obtain ⟨t218, A390, H⟩ := H
                  replace H : ((bound_Total.f a0_0 a0_1 l0_2 l1 t218).bind fun t219 => (if t217 > t219 then (some false) else ((bound_Live.f y207 y214 (l2.length : Int)).bind fun t220 => (if t220 > (y214.length : Int) then (some false) else (usufructlaw25_BoundCovers.l0 k2 l1 l2 t217 (wrap64 (x11_2 + 1)) a0_0 a0_1 l0_2 y207 y214 (l2.length : Int)))))) = some r := H
                  have A39 := ak_ A390
                  clear A390
                  replace H := Option.bind_eq_some_iff.mp H
                  obtain ⟨t219, A400, H⟩ := H
                  replace H : (if t217 > t219 then (some false) else ((bound_Live.f y207 y214 (l2.length : Int)).bind fun t220 => (if t220 > (y214.length : Int) then (some false) else (usufructlaw25_BoundCovers.l0 k2 l1 l2 t217 (wrap64 (x11_2 + 1)) a0_0 a0_1 l0_2 y207 y214 (l2.length : Int))))) = some r := H
                  have A40 := ak_ A400
                  clear A400
                  by_cases c41 : t217 > t219
                  · rw [if_pos c41] at H
                    have c41b0 : decide (t219 < t217) = true := decide_eq_true c41
                    clear c41
                    exact absurd ((Option.some.inj H).trans HTR_.out) (by decide)
                  rw [if_neg c41] at H
                  have c41b0 : decide (t219 < t217) = false := decide_eq_false c41
                  clear c41
                  replace H := Option.bind_eq_some_iff.mp H
                  obtain ⟨t220, A420, H⟩ := H
                  replace H : (if t220 > (y214.length : Int) then (some false) else (usufructlaw25_BoundCovers.l0 k2 l1 l2 t217 (wrap64 (x11_2 + 1)) a0_0 a0_1 l0_2 y207 y214 (l2.length : Int))) = some r := H
                  have A42 := ak_ A420
                  have E42 := ak_ (Option.some.inj (A42.out.symm.trans A39.out))
                  clear A420
                  by_cases c43 : t220 > (y214.length : Int)
                  · rw [if_pos c43] at H
                    have c43b0 : decide ((y214.length : Int) < t220) = true := decide_eq_true c43
                    clear c43
                    exact absurd ((Option.some.inj H).trans HTR_.out) (by decide)
                  rw [if_neg c43] at H
                  have c43b0 : decide ((y214.length : Int) < t220) = false := decide_eq_false c43
                  clear c43
                  have H' := ak_ H
                  clear H
                  try go_wp2
                  have n0_ := ak_ (Kd.V_drew HO_203002.out)
                  have n1_ := ak_ (Kd.N_drew HO_211000.out)
                  have n2_ := ak_ (Kd.R_drew HO_211001.out)
                  have n3_ := ak_ (zd_ BK202.out)
                  have n4_ := ak_ (zd_ BK210.out)
                  have n5_ := ak_ (p1_ HB.out)
                  clear HO_203002
                  clear HO_211000
                  clear HO_211001
                  clear BK202
                  clear BK210
                  clear HB
                  have HO_203002 := n0_
                  have HO_211000 := n1_
                  have HO_211001 := n2_
                  have BK202 := n3_
                  have BK210 := n4_
                  have HB := n5_
                  clear n0_ n1_ n2_ n3_ n4_ n5_
                  have p213 : 0 ≤ (x11_2 : Int) := of_decide_eq_true (by assumption)
                  have q213 : x11_2 < (l2.length : Int) := of_decide_eq_true (by assumption)
                  obtain ⟨ad213, e213, hx213_0⟩ := Kd.at_int HR2.out x11_2 p213 q213
                  have hw213_0 := hx213_0
                  cases e213
                  replace hx213_0 := (HB.out.cell (bl_ w _ hx213_0)).trans hx213_0
                  replace p213 := eq_true p213
                  replace q213 := eq_true q213
                  refine start_ (n := 16) (S := fun w' => w'.cell? ⟨gb210, 0, none⟩ = some (.slice Ao29 y207.length co29) ∧ w'.cell? ⟨gb210, 1, none⟩ = some (u211001) ∧ w'.cell? ⟨gb210, 2, none⟩ = some (.int .i64 (l2.length : Int)) ∧ w'.cell? ⟨gb202, 0, none⟩ = some (.string a0_0) ∧ w'.cell? ⟨gb202, 1, none⟩ = some (.int .i64 a0_1) ∧ w'.cell? ⟨gb202, 2, none⟩ = some (.slice A0_2 l0_2.length c0_2) ∧ w'.cell? (ad213.add (x11_2).toNat) = some (.int .u8 (rd l2 x11_2))) (ds := [15]) #[false, false, false, false, false, false, false, false, false, false, false, false, false, false, false, false] (by kernel_rfl) rfl rfl ⟨(zc_ BK210.out 0).trans rfl, (zc_ BK210.out 1).trans rfl, (zc_ BK210.out 2).trans rfl, (zc_ BK202.out 0).trans rfl, (zc_ BK202.out 1).trans rfl, (zc_ BK202.out 2).trans rfl, ((HB.out.cell (bl_ w _ hw213_0)).trans hw213_0)⟩ (fun hHeld => ?_); refine with_tabW usufructlaw25_BoundCovers.tab11 usufructlaw25_BoundCovers.bits11 (fun HT_ HW_ => ?_)
                  generalize wr.drew = w44 at HO_203002 HO_211000 HO_211001 BK202 BK210 HB hx213_0 hHeld ⊢
                  refine pure_ (i := 0) (N := some 51) (v := ?_) (a' := ?_) (b_ 16 1) rfl rfl (any_of HT_.out (by kernel_rfl)) (fun _ _ _ h => h) (Or.inl ⟨by rfl, ?_⟩) ?_ ?_; rotate_left; (· intro w'; go_simp; with_reducible rfl); rotate_left; (· simp only [Act.put, sa_, sz_, ss_, i64_w, i32_w]; rfl)
                  refine pure_ (i := 2) (N := some 53) (v := ?_) (a' := ?_) (b_ 16 5) rfl rfl (any_of HT_.out (by kernel_rfl)) (fun _ _ _ h => h) (Or.inl ⟨by rfl, ?_⟩) ?_ ?_; rotate_left; (· intro w'; go_simp; with_reducible rfl); rotate_left; (· simp only [Act.put, sa_, sz_, ss_, i64_w, i32_w]; rfl)
                  refine pure_ (i := 3) (N := some 54) (v := ?_) (a' := ?_) (b_ 16 13) rfl rfl (any_of HT_.out (by kernel_rfl)) (fun _ _ _ h => h) (Or.inl ⟨by rfl, ?_⟩) ?_ ?_; rotate_left; (· intro w'; go_simp; with_reducible rfl); rotate_left; (· simp only [Act.put, sa_, sz_, ss_, i64_w, i32_w]; rfl)
                  refine pure_ (i := 5) (N := some 56) (v := ?_) (a' := ?_) (b_ 16 45) rfl rfl (any_of HT_.out (by kernel_rfl)) (fun _ _ _ h => h) (Or.inl ⟨by rfl, ?_⟩) ?_ ?_; rotate_left; (· intro w'; go_simp; with_reducible rfl); rotate_left; (· simp only [Act.put, sa_, sz_, ss_, i64_w, i32_w]; rfl)
                  refine pure_ (i := 6) (N := some 57) (v := ?_) (a' := ?_) (b_ 16 109) rfl rfl (any_of HT_.out (by kernel_rfl)) (fun _ _ _ h => h) (Or.inl ⟨by rfl, ?_⟩) ?_ ?_; rotate_left; (· intro w'; go_simp; with_reducible rfl); rotate_left; (· simp only [Act.put, sa_, sz_, ss_, i64_w, i32_w]; rfl)
                  refine pure_ (i := 7) (N := some 58) (v := ?_) (a' := ?_) (b_ 16 237) rfl rfl (any_of HT_.out (by kernel_rfl)) (fun _ _ _ h => h) (Or.inl ⟨by rfl, ?_⟩) ?_ ?_; rotate_left; (· intro w'; go_simp; with_reducible rfl); rotate_left; (· simp only [Act.put, sa_, sz_, ss_, i64_w, i32_w]; rfl)
                  refine take_ (i := 1) (N := some 52) (v := ?_) (a' := ?_) (b_ 16 239) rfl rfl (take_ofW HT_.out HW_.out (by kernel_rfl)) (fun _ _ _ h => h) (Or.inl ⟨by rfl, ?_⟩) hHeld ?_ ?_
                  rotate_left
                  · rintro w' ⟨s0, s1, s2, s3, s4, s5, s6⟩
                    go_simp
                    with_reducible rfl
                  rotate_left
                  · simp only [Act.put, sa_, sz_, ss_, i64_w, i32_w]
                    rfl
                  refine take_ (i := 4) (N := some 55) (v := ?_) (a' := ?_) (b_ 16 255) rfl rfl (take_ofW HT_.out HW_.out (by kernel_rfl)) (fun _ _ _ h => h) (Or.inl ⟨by rfl, ?_⟩) hHeld ?_ ?_
                  rotate_left
                  · rintro w' ⟨s0, s1, s2, s3, s4, s5, s6⟩
                    go_simp
                    with_reducible rfl
                  rotate_left
                  · simp only [Act.put, sa_, sz_, ss_, i64_w, i32_w]
                    rfl
                  refine take_ (i := 8) (N := some 59) (v := ?_) (a' := ?_) (b_ 16 511) rfl rfl (take_ofW HT_.out HW_.out (by kernel_rfl)) (fun _ _ _ h => h) (Or.inl ⟨by rfl, ?_⟩) hHeld ?_ ?_
                  rotate_left
                  · rintro w' ⟨s0, s1, s2, s3, s4, s5, s6⟩
                    go_simp
                    with_reducible rfl
                  rotate_left
                  · simp only [Act.put, sa_, sz_, ss_, i64_w, i32_w]
                    rfl
                  refine pure_ (i := 9) (N := some 60) (v := ?_) (a' := ?_) (b_ 16 1023) rfl rfl (any_of HT_.out (by kernel_rfl)) (fun _ _ _ h => h) (Or.inl ⟨by rfl, ?_⟩) ?_ ?_; rotate_left; (· intro w'; go_simp; with_reducible rfl); rotate_left; (· simp only [Act.put, sa_, sz_, ss_, i64_w, i32_w]; rfl)
                  refine pure_ (i := 10) (N := some 61) (v := ?_) (a' := ?_) (b_ 16 2047) rfl rfl (any_of HT_.out (by kernel_rfl)) (fun _ _ _ h => h) (Or.inl ⟨by rfl, ?_⟩) ?_ ?_; rotate_left; (· intro w'; go_simp; with_reducible rfl); rotate_left; (· simp only [Act.put, sa_, sz_, ss_, i64_w, i32_w]; rfl)
                  refine pure_ (i := 11) (N := some 62) (v := ?_) (a' := ?_) (b_ 16 4095) rfl rfl (any_of HT_.out (by kernel_rfl)) (fun _ _ _ h => h) (Or.inl ⟨by rfl, ?_⟩) ?_ ?_; rotate_left; (· intro w'; go_simp; with_reducible rfl); rotate_left; (· simp only [Act.put, sa_, sz_, ss_, i64_w, i32_w]; rfl)
                  refine one_ (i := 12) (N := some 63) (b_ 16 8191) rfl rfl (one_of HT_.out (by kernel_rfl)) (by decide) (fun K hK => ?_)
                  refine value_ (w1 := ?_) (v := ?_) (by rfl) rfl ?_ ?_
                  rotate_left 2
                  · go_simp
                    constructor
                    · rfl
                    rfl
                  refine hK.out _ _ ⟨(zc_ (za_ BK210.out _) 0).trans rfl, (zc_ (za_ BK210.out _) 1).trans rfl, (zc_ (za_ BK210.out _) 2).trans rfl, (zc_ (za_ BK202.out _) 0).trans rfl, (zc_ (za_ BK202.out _) 1).trans rfl, (zc_ (za_ BK202.out _) 2).trans rfl, (World.cell?_alloc_lt _ _ _ (bl_ _ _ (((HB.out.cell (bl_ w _ hw213_0)).trans hw213_0)))).trans (((HB.out.cell (bl_ w _ hw213_0)).trans hw213_0))⟩ (fun hHeld => ?_)
                  clear hK K
                  refine norm_ (a' := ?_) ?_ ?_
                  rotate_left
                  · show Act.put _ (some 63) _ = _
                    simp only [Act.put, sa_, sz_, ss_, i64_w, i32_w]
                    rfl
                  refine one_ (i := 13) (N := some 64) (b_ 16 16383) rfl rfl (one_of HT_.out (by kernel_rfl)) (by decide) (fun K hK => ?_)
                  refine Kd.R_append_step k44 (w0 := w) w.heap.size (by rfl) (.tmp 52) (.tmp 63) 23 44 (.agg #[(.int .i64 0), (.string ⟨#[]⟩), (.int .i64 0), (.int .i64 0), (.int .i64 0), (.int .i64 0), (.bool false), (.int .i64 0), (.int .i64 0)]) 80 rfl Try.underlying23 info44 rfl (by decide) (by omega) u211001 x211001_2 (⟨x11_2, a0_0, 0, wrap64 (Int.tmod (rd l2 x11_2) 6), 0, 0, false, 0, 0⟩ : S44) [.int .i64 x11_2, .string a0_0, .int .i64 0, .int .i64 (wrap64 (Int.tmod (rd l2 x11_2) 6)), .int .i64 0, .int .i64 0, .bool false, .int .i64 0, .int .i64 0] (fun k_ => (w.heap.size ≤ k_)) (fun _ => False) rfl rfl ?aP (fun _ hk => hk.elim) ?aF ?aO ?aB ?aS ?aL ?_
                  (case aP => exact k44_mkM _ _ _ (⟨x11_2, a0_0, 0, wrap64 (Int.tmod (rd l2 x11_2) 6), 0, 0, false, 0, 0⟩ : S44))
                  (case aB => exact (by repeat (first | (with_reducible first | exact HB.out | apply pa_ | apply pd_ | apply p1_ | refine zs_ ?_ GE202.out | refine zs_ ?_ GE210.out) | exact HB.out)))
                  (case aF => exact (fun k_ hk => (Nat.le_trans (below_size (by repeat (first | (with_reducible first | exact HB.out | apply pa_ | apply pd_ | apply p1_ | refine zs_ ?_ GE202.out | refine zs_ ?_ GE210.out) | exact HB.out))) hk)))
                  (case aO => exact (by (with_reducible repeat (first | apply Kd.R_alloc | apply Kd.R_drewN | apply Kd.R_drew)); exact HO_211001.out))
                  (case aS => exact (below_size (by repeat (first | (with_reducible first | exact HB.out | apply pa_ | apply pd_ | apply p1_ | refine zs_ ?_ GE202.out | refine zs_ ?_ GE210.out) | exact HB.out))))
                  (case aL => have := LMc36.out; omega)
                  intro v215 w45 ho hb hg hat
                  rw [← Ny214.out] at ho
                  have n0_ := ak_ (Kd.V_afterv (ok := (fun k_ => (P0_2_ k_ ∨ w.heap.size ≤ k_) ∧ some k_ ≠ (.slice Ao29 y207.length co29 : Value).ownBlock ∧ k_ ≠ gb202 ∧ k_ ≠ gb210)) (by (with_reducible repeat (first | apply Kd.V_alloc | apply Kd.V_drewN | apply Kd.V_drew)); exact Kd.V_mono HO_203002.out (fun _ hk => ⟨⟨hk.1, ⟨hk.2.1, ⟨hk.2.2.2.1, hk.2.2.2.2⟩⟩⟩, hk.2.2.1⟩)) hg hat)
                  have n1_ := ak_ (Kd.N_afterv (ok := (fun k_ => (P0_2_ k_ ∨ w.heap.size ≤ k_) ∧ k_ ≠ gb202 ∧ k_ ≠ gb210)) (by (with_reducible repeat (first | apply Kd.N_alloc | apply Kd.N_drewN | apply Kd.N_drew)); exact Kd.N_mono HO_211000.out (fun _ hk => ⟨⟨hk.1, ⟨hk.2.2.1, hk.2.2.2⟩⟩, hk.2.1⟩)) hg hat)
                  have n2_ := ak_ (blk_grown (g := gb202) (o := .cells #[.string a0_0, .int .i64 a0_1, .slice A0_2 l0_2.length c0_2] 28 (0, 0)) (by (with_reducible repeat (first | apply zn_ | apply zd_ | apply za_)); exact BK202.out) hg (Kd.R_ne HO_211001.out BK202.out (by decide)))
                  have n3_ := ak_ (blk_grown (g := gb210) (o := .cells #[.slice Ao29 y207.length co29, u211001, .int .i64 (l2.length : Int)] 25 (0, 0)) (by (with_reducible repeat (first | apply zn_ | apply zd_ | apply za_)); exact BK210.out) hg (Kd.R_ne HO_211001.out BK210.out (by decide)))
                  have n4_ := ak_ (hb)
                  have n5_ := ak_ (ho)
                  clear HO_203002
                  clear HO_211000
                  clear BK202
                  clear BK210
                  clear HB
                  clear HO_211001
                  have HO_203002 := n0_
                  have HO_211000 := n1_
                  have BK202 := n2_
                  have BK210 := n3_
                  have HB := n4_
                  have HO216 := n5_
                  clear n0_ n1_ n2_ n3_ n4_ n5_
                  clear ho hb hg hat
                  obtain ⟨Ao46, co46, eo46⟩ := Kd.R_slice HO216.out
                  (first | subst eo46 | (injection eo46 with f1_ f2_ f3_; have f4_ := f1_.symm; have f5_ := f3_.symm; clear f1_ f2_ f3_; subst f4_; subst f5_))
                  refine hK.out _ _ ⟨(zc_ BK210.out 0).trans rfl, (zc_ BK210.out 1).trans rfl, (zc_ BK210.out 2).trans rfl, (zc_ BK202.out 0).trans rfl, (zc_ BK202.out 1).trans rfl, (zc_ BK202.out 2).trans rfl, ((HB.out.cell (bl_ w _ hw213_0)).trans hw213_0)⟩ (fun hHeld => ?_)
                  clear hK K
                  refine norm_ (a' := ?_) ?_ ?_
                  rotate_left
                  · show Act.put _ (some 64) _ = _
                    simp only [Act.put, sa_, sz_, ss_, i64_w, i32_w]
                    rfl
                  refine pure_ (i := 14) (N := some 65) (v := ?_) (a' := ?_) (b_ 16 32767) rfl rfl (any_of HT_.out (by kernel_rfl)) (fun _ _ _ h => h) (Or.inl ⟨by rfl, ?_⟩) ?_ ?_; rotate_left; (· intro w'; go_simp; with_reducible rfl); rotate_left; (· simp only [Act.put, sa_, sz_, ss_, i64_w, i32_w]; rfl)
                  refine last_ (i := 15) (N := none) (b_ 16 65535) rfl rfl (one_of HT_.out (by kernel_rfl)) (by decide) (fun K hK => ?_)
                  have hs47 : w45.cell? ⟨gb210, 1, none⟩ = some (u211001) := (zc_ BK210.out 1).trans rfl
                  have hfs47 := zf_ BK210.out 1
                  have hns47_0 := NB202_210.out
                  have hms47_0 := NB210_202.out
                  refine skip_ (w1 := ?_) (by rfl) rfl ?_ ?_
                  rotate_left
                  · go_simp
                    rfl
                  refine hK.out _ _ ?_
                  clear hK K
                  refine done_ (done_of HT_.out (by kernel_rfl)) ?_
                  have hnb48 := NB210_202.out
                  have hnc48 := NB202_210.out
                  have hcz49_0 : w45.cell? ⟨gb210, 0, none⟩ = some (.slice Ao29 y207.length co29) := (zc_ BK210.out 0).trans rfl
                  have hcz49_1 : w45.cell? ⟨gb210, 1, none⟩ = some (u211001) := (zc_ BK210.out 1).trans rfl
                  have hcz49_2 : w45.cell? ⟨gb210, 2, none⟩ = some (.int .i64 (l2.length : Int)) := (zc_ BK210.out 2).trans rfl
                  have hfz49_0 := zf_ BK210.out 0
                  have hfz49_1 := zf_ BK210.out 1
                  have hfz49_2 := zf_ BK210.out 2
                  try go_wp2_with (first | ((with_reducible refine gate_callee (f := 17) rfl ?_); refine goesL_ (some 68) rfl rfl Try.func17 (by kernel_rfl) rfl #[.agg #[.slice Ao29 y207.length co29, .slice Ao46 y214.length co46, .int .i64 (l2.length : Int)], .slice A1 l1.length c1] rfl (by (try simp only [List.map_toArray, List.map_cons, List.map_nil]); first | done | rfl | (simp only [List.length_drop, List.length_take]; rfl)) ?_; (with_reducible refine (bound_Ticks.calls _ _ y207 _ _ y214 (l2.length : Int) _ _ l1 t217 _ ?side1 ?side2 ?side3 ?side4 ?side5 ?side6 A37.out).mono ?_); (case side1 => refine (Kd.N_reads' (e := 28) (base := w.heap.size) (ok := fun k_ => (((P0_2_ k_ ∨ w.heap.size ≤ k_) ∧ (k_ ≠ gb202 ∧ k_ ≠ gb210)) ∧ some k_ ≠ (.slice Ao46 y214.length co46 : Value).ownBlock)) (n := y207.length) (c := co29) ?_).2.2; exact (by (with_reducible repeat (first | apply Kd.N_alloc | apply Kd.N_drewN | apply Kd.N_drew)); exact (Kd.N_mono (Kd.N_far (p := ⟨gb210, 1, none⟩) (Kd.N_mono HO_211000.out (fun k_ hk => (⟨hk, hk.1.2.2⟩ : _ ∧ k_ ≠ gb210))) (fun _ hk => hk.2) (.slice Ao46 y214.length co46)) (fun _ h_ => h_.1)))); (case side2 => exact (Kd.N_reads' HO_211000.out).2.1); (case side3 => refine (Kd.R_reads' (e := 44) (base := w.heap.size) (ok := fun k_ => (w.heap.size ≤ k_)) (n := y214.length) (c := co46) ?_).2.2; exact (by (with_reducible repeat (first | apply Kd.R_alloc | apply Kd.R_drewN | apply Kd.R_drew)); exact (Kd.R_mono (Kd.R_far (p := ⟨gb210, 1, none⟩) (Kd.R_types HO216.out BK210.out (by decide)) (fun _ hk => hk.2) (.slice Ao46 y214.length co46)) (fun _ h_ => h_.1)))); (case side4 => exact (Kd.R_reads' HO216.out).2.1); (case side5 => exact Kd.C_below HR1.out (by repeat (first | (with_reducible first | exact HB.out | apply pa_ | apply pd_ | apply p1_ | refine zs_ ?_ GE202.out | refine zs_ ?_ GE210.out) | exact HB.out))); (case side6 => exact HC1.out); rintro e w50 ⟨rfl, hb⟩; refine ⟨_, rfl, ?_⟩; have n0_ := ak_ (Kd.V_below (by (with_reducible repeat (first | apply Kd.V_alloc | apply Kd.V_drewN | apply Kd.V_drew)); exact (Kd.V_mono (Kd.V_far (p := ⟨gb210, 1, none⟩) (Kd.V_mono HO_203002.out (fun k_ hk => (⟨hk, hk.1.2.2.2⟩ : _ ∧ k_ ≠ gb210))) (fun _ hk => hk.2) (.slice Ao46 y214.length co46)) (fun _ h_ => h_.1))) hb); have n1_ := ak_ (Kd.N_below (by (with_reducible repeat (first | apply Kd.N_alloc | apply Kd.N_drewN | apply Kd.N_drew)); exact (Kd.N_mono (Kd.N_far (p := ⟨gb210, 1, none⟩) (Kd.N_mono HO_211000.out (fun k_ hk => (⟨hk, hk.1.2.2⟩ : _ ∧ k_ ≠ gb210))) (fun _ hk => hk.2) (.slice Ao46 y214.length co46)) (fun _ h_ => h_.1))) hb); have n2_ := ak_ (Kd.R_below (by (with_reducible repeat (first | apply Kd.R_alloc | apply Kd.R_drewN | apply Kd.R_drew)); exact (Kd.R_mono (Kd.R_far (p := ⟨gb210, 1, none⟩) (Kd.R_types HO216.out BK210.out (by decide)) (fun _ hk => hk.2) (.slice Ao46 y214.length co46)) (fun _ h_ => h_.1))) hb); have n3_ := ak_ (blk_below (g := gb202) (o := .cells #[.string a0_0, .int .i64 a0_1, .slice A0_2 l0_2.length c0_2] 28 (0, 0)) (by (with_reducible repeat (first | apply zn_ | apply zd_ | apply za_)); refine zr_ ?_ NB202_210.out _; (with_reducible repeat (first | apply zn_ | apply zd_ | apply za_)); exact BK202.out) hb); have n4_ := ak_ (blk_below (g := gb210) (o := .cells #[.slice Ao29 y207.length co29, .slice Ao46 y214.length co46, .int .i64 (l2.length : Int)] 25 (0, 0)) (by (with_reducible repeat (first | apply zn_ | apply zd_ | apply za_)); refine zp_ (cs := #[.slice Ao29 y207.length co29, u211001, .int .i64 (l2.length : Int)]) ?_ 1 _ rfl; (with_reducible repeat (first | apply zn_ | apply zd_ | apply za_)); exact BK210.out) hb); have n5_ := ak_ (ps_ (by repeat (first | (with_reducible first | exact HB.out | apply pa_ | apply pd_ | apply p1_ | refine zs_ ?_ GE202.out | refine zs_ ?_ GE210.out) | exact HB.out)) hb); clear HO_203002; clear HO_211000; clear HO216; clear BK202; clear BK210; clear HB; have HO_203002 := n0_; have HO_211000 := n1_; have HO216 := n2_; have BK202 := n3_; have BK210 := n4_; have HB := n5_; clear n0_ n1_ n2_ n3_ n4_ n5_; (try clear hb hk hi)))
                  have n0_ := ak_ (Kd.V_drew HO_203002.out)
                  have n1_ := ak_ (Kd.N_drew HO_211000.out)
                  have n2_ := ak_ (Kd.R_drew HO216.out)
                  have n3_ := ak_ (zd_ BK202.out)
                  have n4_ := ak_ (zd_ BK210.out)
                  have n5_ := ak_ (p1_ HB.out)
                  clear HO_203002
                  clear HO_211000
                  clear HO216
                  clear BK202
                  clear BK210
                  clear HB
                  have HO_203002 := n0_
                  have HO_211000 := n1_
                  have HO216 := n2_
                  have BK202 := n3_
                  have BK210 := n4_
                  have HB := n5_
                  clear n0_ n1_ n2_ n3_ n4_ n5_
                  refine start_ (n := 20) (S := fun w' => w'.cell? ⟨gb202, 0, none⟩ = some (.string a0_0) ∧ w'.cell? ⟨gb202, 1, none⟩ = some (.int .i64 a0_1) ∧ w'.cell? ⟨gb202, 2, none⟩ = some (.slice A0_2 l0_2.length c0_2) ∧ w'.cell? ⟨gb210, 0, none⟩ = some (.slice Ao29 y207.length co29) ∧ w'.cell? ⟨gb210, 1, none⟩ = some (.slice Ao46 y214.length co46) ∧ w'.cell? ⟨gb210, 2, none⟩ = some (.int .i64 (l2.length : Int))) (ds := []) #[false, false, false, false, false, false, false, false, false, false, false, false, false, false, false, false, false, false, false, false] (by kernel_rfl) rfl rfl ⟨(zc_ BK202.out 0).trans rfl, (zc_ BK202.out 1).trans rfl, (zc_ BK202.out 2).trans rfl, (zc_ BK210.out 0).trans rfl, (zc_ BK210.out 1).trans rfl, (zc_ BK210.out 2).trans rfl⟩ (fun hHeld => ?_); refine with_tabW usufructlaw25_BoundCovers.tab13 usufructlaw25_BoundCovers.bits13 (fun HT_ HW_ => ?_)
                  generalize w50.drew = w51 at HO_203002 HO_211000 HO216 BK202 BK210 HB hHeld ⊢
                  refine pure_ (i := 0) (N := some 69) (v := ?_) (a' := ?_) (b_ 20 1) rfl rfl (any_of HT_.out (by kernel_rfl)) (fun _ _ _ h => h) (Or.inl ⟨by rfl, ?_⟩) ?_ ?_; rotate_left; (· intro w'; go_simp; with_reducible rfl); rotate_left; (· simp only [Act.put, sa_, sz_, ss_, i64_w, i32_w]; rfl)
                  refine pure_ (i := 1) (N := some 70) (v := ?_) (a' := ?_) (b_ 20 3) rfl rfl (any_of HT_.out (by kernel_rfl)) (fun _ _ _ h => h) (Or.inl ⟨by rfl, ?_⟩) ?_ ?_; rotate_left; (· intro w'; go_simp; with_reducible rfl); rotate_left; (· simp only [Act.put, sa_, sz_, ss_, i64_w, i32_w]; rfl)
                  refine pure_ (i := 2) (N := some 71) (v := ?_) (a' := ?_) (b_ 20 7) rfl rfl (any_of HT_.out (by kernel_rfl)) (fun _ _ _ h => h) (Or.inl ⟨by rfl, ?_⟩) ?_ ?_; rotate_left; (· intro w'; go_simp; with_reducible rfl); rotate_left; (· simp only [Act.put, sa_, sz_, ss_, i64_w, i32_w]; rfl)
                  refine pure_ (i := 3) (N := some 72) (v := ?_) (a' := ?_) (b_ 20 15) rfl rfl (any_of HT_.out (by kernel_rfl)) (fun _ _ _ h => h) (Or.inl ⟨by rfl, ?_⟩) ?_ ?_; rotate_left; (· intro w'; go_simp; with_reducible rfl); rotate_left; (· simp only [Act.put, sa_, sz_, ss_, i64_w, i32_w]; rfl)
                  refine pure_ (i := 4) (N := some 73) (v := ?_) (a' := ?_) (b_ 20 31) rfl rfl (any_of HT_.out (by kernel_rfl)) (fun _ _ _ h => h) (Or.inl ⟨by rfl, ?_⟩) ?_ ?_; rotate_left; (· intro w'; go_simp; with_reducible rfl); rotate_left; (· simp only [Act.put, sa_, sz_, ss_, i64_w, i32_w]; rfl)
                  refine pure_ (i := 6) (N := some 75) (v := ?_) (a' := ?_) (b_ 20 95) rfl rfl (any_of HT_.out (by kernel_rfl)) (fun _ _ _ h => h) (Or.inl ⟨by rfl, ?_⟩) ?_ ?_; rotate_left; (· intro w'; go_simp; with_reducible rfl); rotate_left; (· simp only [Act.put, sa_, sz_, ss_, i64_w, i32_w]; rfl)
                  refine take_ (i := 5) (N := some 74) (v := ?_) (a' := ?_) (b_ 20 127) rfl rfl (take_ofW HT_.out HW_.out (by kernel_rfl)) (fun _ _ _ h => h) (Or.inl ⟨by rfl, ?_⟩) hHeld ?_ ?_
                  rotate_left
                  · rintro w' ⟨s0, s1, s2, s3, s4, s5⟩
                    go_simp
                    with_reducible rfl
                  rotate_left
                  · simp only [Act.put, sa_, sz_, ss_, i64_w, i32_w]
                    rfl
                  refine take_ (i := 7) (N := some 76) (v := ?_) (a' := ?_) (b_ 20 255) rfl rfl (take_ofW HT_.out HW_.out (by kernel_rfl)) (fun _ _ _ h => h) (Or.inl ⟨by rfl, ?_⟩) hHeld ?_ ?_
                  rotate_left
                  · rintro w' ⟨s0, s1, s2, s3, s4, s5⟩
                    go_simp
                    with_reducible rfl
                  rotate_left
                  · simp only [Act.put, sa_, sz_, ss_, i64_w, i32_w]
                    rfl
                  refine one_ (i := 8) (N := some 77) (b_ 20 511) rfl rfl (one_of HT_.out (by kernel_rfl)) (by decide) (fun K hK => ?_)
                  refine goes_ Try.func15 (by kernel_rfl) rfl #[.agg #[.slice Ao29 y207.length co29, .slice Ao46 y214.length co46, .int .i64 (l2.length : Int)]] (by rfl) rfl rfl (by (try simp only [List.map_toArray, List.map_cons, List.map_nil]); first | done | rfl | (simp only [List.length_drop, List.length_take]; rfl)) ?_
                  with_reducible refine (bound_Live.calls _ _ y207 _ _ y214 (l2.length : Int) t218 _ ?side1 ?side2 ?side3 ?side4 A39.out).mono ?_
                  (case side1 => repeat (first | exact (Kd.N_reads' HO_211000.out).2.2 | (with_reducible refine Kd.C_alloc ?_ _) | (with_reducible refine Kd.C_drewN ?_ _) | (with_reducible refine Kd.C_drew ?_)))
                  (case side2 => exact (Kd.N_reads' HO_211000.out).2.1)
                  (case side3 => repeat (first | exact (Kd.R_reads' HO216.out).2.2 | (with_reducible refine Kd.C_alloc ?_ _) | (with_reducible refine Kd.C_drewN ?_ _) | (with_reducible refine Kd.C_drew ?_)))
                  (case side4 => exact (Kd.R_reads' HO216.out).2.1)
                  rintro e w52 ⟨rfl, hb⟩
                  refine ⟨_, rfl, ?_⟩
                  have n0_ := ak_ (Kd.V_below (by (with_reducible repeat (first | apply Kd.V_alloc | apply Kd.V_drewN | apply Kd.V_drew)); exact HO_203002.out) hb)
                  have n1_ := ak_ (Kd.N_below (by (with_reducible repeat (first | apply Kd.N_alloc | apply Kd.N_drewN | apply Kd.N_drew)); exact HO_211000.out) hb)
                  have n2_ := ak_ (Kd.R_below (by (with_reducible repeat (first | apply Kd.R_alloc | apply Kd.R_drewN | apply Kd.R_drew)); exact HO216.out) hb)
                  have n3_ := ak_ (blk_below (g := gb202) (o := .cells #[.string a0_0, .int .i64 a0_1, .slice A0_2 l0_2.length c0_2] 28 (0, 0)) (by (with_reducible repeat (first | apply zn_ | apply zd_ | apply za_)); exact BK202.out) hb)
                  have n4_ := ak_ (blk_below (g := gb210) (o := .cells #[.slice Ao29 y207.length co29, .slice Ao46 y214.length co46, .int .i64 (l2.length : Int)] 25 (0, 0)) (by (with_reducible repeat (first | apply zn_ | apply zd_ | apply za_)); exact BK210.out) hb)
                  have n5_ := ak_ (ps_ (by repeat (first | (with_reducible first | exact HB.out | apply pa_ | apply pd_ | apply p1_ | refine zs_ ?_ GE202.out | refine zs_ ?_ GE210.out) | exact HB.out)) hb)
                  clear HO_203002
                  clear HO_211000
                  clear HO216
                  clear BK202
                  clear BK210
                  clear HB
                  have HO_203002 := n0_
                  have HO_211000 := n1_
                  have HO216 := n2_
                  have BK202 := n3_
                  have BK210 := n4_
                  have HB := n5_
                  clear n0_ n1_ n2_ n3_ n4_ n5_
                  (try clear hb hk hi)
                  refine hK.out _ _ ⟨(zc_ BK202.out 0).trans rfl, (zc_ BK202.out 1).trans rfl, (zc_ BK202.out 2).trans rfl, (zc_ BK210.out 0).trans rfl, (zc_ BK210.out 1).trans rfl, (zc_ BK210.out 2).trans rfl⟩ (fun hHeld => ?_)
                  clear hK K
                  refine norm_ (a' := ?_) ?_ ?_
                  rotate_left
                  · show Act.put _ (some 77) _ = _
                    simp only [Act.put, sa_, sz_, ss_, i64_w, i32_w]
                    rfl
                  refine one_ (i := 9) (N := some 78) (b_ 20 1023) rfl rfl (one_of HT_.out (by kernel_rfl)) (by decide) (fun K hK => ?_)
                  refine goes_ Try.func19 (by kernel_rfl) rfl #[.agg #[.string a0_0, .int .i64 a0_1, .slice A0_2 l0_2.length c0_2], .slice A1 l1.length c1, .int .i64 t218] (by rfl) rfl rfl (by (try simp only [List.map_toArray, List.map_cons, List.map_nil]); first | done | rfl | (simp only [List.length_drop, List.length_take]; rfl)) ?_
                  with_reducible refine (bound_Total.calls a0_0 a0_1 _ _ l0_2 _ _ l1 t218 t219 _ ?side1 ?side2 ?side3 ?side4 A40.out).mono ?_
                  (case side1 => repeat (first | exact (Kd.V_reads' HO_203002.out).2.2 | (with_reducible refine Kd.C_alloc ?_ _) | (with_reducible refine Kd.C_drewN ?_ _) | (with_reducible refine Kd.C_drew ?_)))
                  (case side2 => exact (Kd.V_reads' HO_203002.out).2.1)
                  (case side3 => repeat (first | exact (Kd.C_below HR1.out HB.out) | (with_reducible refine Kd.C_alloc ?_ _) | (with_reducible refine Kd.C_drewN ?_ _) | (with_reducible refine Kd.C_drew ?_)))
                  (case side4 => exact HC1.out)
                  rintro e w53 ⟨rfl, hb⟩
                  refine ⟨_, rfl, ?_⟩
                  have n0_ := ak_ (Kd.V_below (by (with_reducible repeat (first | apply Kd.V_alloc | apply Kd.V_drewN | apply Kd.V_drew)); exact HO_203002.out) hb)
                  have n1_ := ak_ (Kd.N_below (by (with_reducible repeat (first | apply Kd.N_alloc | apply Kd.N_drewN | apply Kd.N_drew)); exact HO_211000.out) hb)
                  have n2_ := ak_ (Kd.R_below (by (with_reducible repeat (first | apply Kd.R_alloc | apply Kd.R_drewN | apply Kd.R_drew)); exact HO216.out) hb)
                  have n3_ := ak_ (blk_below (g := gb202) (o := .cells #[.string a0_0, .int .i64 a0_1, .slice A0_2 l0_2.length c0_2] 28 (0, 0)) (by (with_reducible repeat (first | apply zn_ | apply zd_ | apply za_)); exact BK202.out) hb)
                  have n4_ := ak_ (blk_below (g := gb210) (o := .cells #[.slice Ao29 y207.length co29, .slice Ao46 y214.length co46, .int .i64 (l2.length : Int)] 25 (0, 0)) (by (with_reducible repeat (first | apply zn_ | apply zd_ | apply za_)); exact BK210.out) hb)
                  have n5_ := ak_ (ps_ (by repeat (first | (with_reducible first | exact HB.out | apply pa_ | apply pd_ | apply p1_ | refine zs_ ?_ GE202.out | refine zs_ ?_ GE210.out) | exact HB.out)) hb)
                  clear HO_203002
                  clear HO_211000
                  clear HO216
                  clear BK202
                  clear BK210
                  clear HB
                  have HO_203002 := n0_
                  have HO_211000 := n1_
                  have HO216 := n2_
                  have BK202 := n3_
                  have BK210 := n4_
                  have HB := n5_
                  clear n0_ n1_ n2_ n3_ n4_ n5_
                  (try clear hb hk hi)
                  refine hK.out _ _ ⟨(zc_ BK202.out 0).trans rfl, (zc_ BK202.out 1).trans rfl, (zc_ BK202.out 2).trans rfl, (zc_ BK210.out 0).trans rfl, (zc_ BK210.out 1).trans rfl, (zc_ BK210.out 2).trans rfl⟩ (fun hHeld => ?_)
                  clear hK K
                  refine norm_ (a' := ?_) ?_ ?_
                  rotate_left
                  · show Act.put _ (some 78) _ = _
                    simp only [Act.put, sa_, sz_, ss_, i64_w, i32_w]
                    rfl
                  refine pure_ (i := 10) (N := some 79) (v := ?_) (a' := ?_) (b_ 20 2047) rfl rfl (any_of HT_.out (by kernel_rfl)) (fun _ _ _ h => h) (Or.inl ⟨by rfl, ?_⟩) ?_ ?_; rotate_left; (· intro w'; go_simp; with_reducible rfl); rotate_left; (· simp only [Act.put, sa_, sz_, ss_, i64_w, i32_w]; rfl)
                  refine pure_ (i := 11) (N := some 80) (v := ?_) (a' := ?_) (b_ 20 4095) rfl rfl (any_of HT_.out (by kernel_rfl)) (fun _ _ _ h => h) (Or.inl ⟨by rfl, ?_⟩) ?_ ?_; rotate_left; (· intro w'; go_simp; with_reducible rfl); rotate_left; (· simp only [Act.put, sa_, sz_, ss_, i64_w, i32_w]; rfl)
                  refine pure_ (i := 12) (N := some 81) (v := ?_) (a' := ?_) (b_ 20 8191) rfl rfl (any_of HT_.out (by kernel_rfl)) (fun _ _ _ h => h) (Or.inl ⟨by rfl, ?_⟩) ?_ ?_; rotate_left; (· intro w'; go_simp; with_reducible rfl); rotate_left; (· simp only [Act.put, sa_, sz_, ss_, i64_w, i32_w]; rfl)
                  refine pure_ (i := 15) (N := some 84) (v := ?_) (a' := ?_) (b_ 20 40959) rfl rfl (any_of HT_.out (by kernel_rfl)) (fun _ _ _ h => h) (Or.inl ⟨by rfl, ?_⟩) ?_ ?_; rotate_left; (· intro w'; go_simp; with_reducible rfl); rotate_left; (· simp only [Act.put, sa_, sz_, ss_, i64_w, i32_w]; rfl)
                  refine take_ (i := 13) (N := some 82) (v := ?_) (a' := ?_) (b_ 20 49151) rfl rfl (take_ofW HT_.out HW_.out (by kernel_rfl)) (fun _ _ _ h => h) (Or.inl ⟨by rfl, ?_⟩) hHeld ?_ ?_
                  rotate_left
                  · rintro w' ⟨s0, s1, s2, s3, s4, s5⟩
                    go_simp
                    with_reducible rfl
                  rotate_left
                  · simp only [Act.put, sa_, sz_, ss_, i64_w, i32_w]
                    rfl
                  refine take_ (i := 16) (N := some 85) (v := ?_) (a' := ?_) (b_ 20 114687) rfl rfl (take_ofW HT_.out HW_.out (by kernel_rfl)) (fun _ _ _ h => h) (Or.inl ⟨by rfl, ?_⟩) hHeld ?_ ?_
                  rotate_left
                  · rintro w' ⟨s0, s1, s2, s3, s4, s5⟩
                    go_simp
                    with_reducible rfl
                  rotate_left
                  · simp only [Act.put, sa_, sz_, ss_, i64_w, i32_w]
                    rfl
                  refine pure_ (i := 17) (N := some 86) (v := ?_) (a' := ?_) (b_ 20 245759) rfl rfl (any_of HT_.out (by kernel_rfl)) (fun _ _ _ h => h) (Or.inl ⟨by rfl, ?_⟩) ?_ ?_; rotate_left; (· intro w'; go_simp; with_reducible rfl); rotate_left; (· simp only [Act.put, sa_, sz_, ss_, i64_w, i32_w]; rfl)
                  refine one_ (i := 14) (N := some 83) (b_ 20 262143) rfl rfl (one_of HT_.out (by kernel_rfl)) (by decide) (fun K hK => ?_)
                  refine goes_ Try.func15 (by kernel_rfl) rfl #[.agg #[.slice Ao29 y207.length co29, .slice Ao46 y214.length co46, .int .i64 (l2.length : Int)]] (by rfl) rfl rfl (by (try simp only [List.map_toArray, List.map_cons, List.map_nil]); first | done | rfl | (simp only [List.length_drop, List.length_take]; rfl)) ?_
                  with_reducible refine (bound_Live.calls _ _ y207 _ _ y214 (l2.length : Int) t220 _ ?side1 ?side2 ?side3 ?side4 A42.out).mono ?_
                  (case side1 => repeat (first | exact (Kd.N_reads' HO_211000.out).2.2 | (with_reducible refine Kd.C_alloc ?_ _) | (with_reducible refine Kd.C_drewN ?_ _) | (with_reducible refine Kd.C_drew ?_)))
                  (case side2 => exact (Kd.N_reads' HO_211000.out).2.1)
                  (case side3 => repeat (first | exact (Kd.R_reads' HO216.out).2.2 | (with_reducible refine Kd.C_alloc ?_ _) | (with_reducible refine Kd.C_drewN ?_ _) | (with_reducible refine Kd.C_drew ?_)))
                  (case side4 => exact (Kd.R_reads' HO216.out).2.1)
                  rintro e w54 ⟨rfl, hb⟩
                  refine ⟨_, rfl, ?_⟩
                  have n0_ := ak_ (Kd.V_below (by (with_reducible repeat (first | apply Kd.V_alloc | apply Kd.V_drewN | apply Kd.V_drew)); exact HO_203002.out) hb)
                  have n1_ := ak_ (Kd.N_below (by (with_reducible repeat (first | apply Kd.N_alloc | apply Kd.N_drewN | apply Kd.N_drew)); exact HO_211000.out) hb)
                  have n2_ := ak_ (Kd.R_below (by (with_reducible repeat (first | apply Kd.R_alloc | apply Kd.R_drewN | apply Kd.R_drew)); exact HO216.out) hb)
                  have n3_ := ak_ (blk_below (g := gb202) (o := .cells #[.string a0_0, .int .i64 a0_1, .slice A0_2 l0_2.length c0_2] 28 (0, 0)) (by (with_reducible repeat (first | apply zn_ | apply zd_ | apply za_)); exact BK202.out) hb)
                  have n4_ := ak_ (blk_below (g := gb210) (o := .cells #[.slice Ao29 y207.length co29, .slice Ao46 y214.length co46, .int .i64 (l2.length : Int)] 25 (0, 0)) (by (with_reducible repeat (first | apply zn_ | apply zd_ | apply za_)); exact BK210.out) hb)
                  have n5_ := ak_ (ps_ (by repeat (first | (with_reducible first | exact HB.out | apply pa_ | apply pd_ | apply p1_ | refine zs_ ?_ GE202.out | refine zs_ ?_ GE210.out) | exact HB.out)) hb)
                  clear HO_203002
                  clear HO_211000
                  clear HO216
                  clear BK202
                  clear BK210
                  clear HB
                  have HO_203002 := n0_
                  have HO_211000 := n1_
                  have HO216 := n2_
                  have BK202 := n3_
                  have BK210 := n4_
                  have HB := n5_
                  clear n0_ n1_ n2_ n3_ n4_ n5_
                  (try clear hb hk hi)
                  refine hK.out _ _ ⟨(zc_ BK202.out 0).trans rfl, (zc_ BK202.out 1).trans rfl, (zc_ BK202.out 2).trans rfl, (zc_ BK210.out 0).trans rfl, (zc_ BK210.out 1).trans rfl, (zc_ BK210.out 2).trans rfl⟩ (fun hHeld => ?_)
                  clear hK K
                  refine norm_ (a' := ?_) ?_ ?_
                  rotate_left
                  · show Act.put _ (some 83) _ = _
                    simp only [Act.put, sa_, sz_, ss_, i64_w, i32_w]
                    rfl
                  refine pure_ (i := 18) (N := some 87) (v := ?_) (a' := ?_) (b_ 20 524287) rfl rfl (any_of HT_.out (by kernel_rfl)) (fun _ _ _ h => h) (Or.inl ⟨by rfl, ?_⟩) ?_ ?_; rotate_left; (· intro w'; go_simp; with_reducible rfl); rotate_left; (· simp only [Act.put, sa_, sz_, ss_, i64_w, i32_w]; rfl)
                  refine pure_ (i := 19) (N := some 88) (v := ?_) (a' := ?_) (b_ 20 1048575) rfl rfl (any_of HT_.out (by kernel_rfl)) (fun _ _ _ h => h) (Or.inl ⟨by rfl, ?_⟩) ?_ ?_; rotate_left; (· intro w'; go_simp; with_reducible rfl); rotate_left; (· simp only [Act.put, sa_, sz_, ss_, i64_w, i32_w]; rfl)
                  refine done_ (done_of HT_.out (by kernel_rfl)) ?_
                  try go_wp2
                  go_roundg k2
                  case measure => have := HJ6.out; have := HK2.out; omega
                  case rel => exact ⟨(t217), (wrap64 (x11_2 + 1)), (y214), (.slice Ao46 y214.length co46), (by first | rfl | (simp; done) | (simp [*]; done)), (by first | rfl | (simp; done) | (simp [*]; done)), H', ⟨by have := HJ6.out; have := HK2.out; omega⟩, ⟨by (with_reducible repeat (first | apply Kd.V_alloc | apply Kd.V_drewN | apply Kd.V_drew)); exact Kd.V_mono HO_203002.out (fun _ hk => ⟨hk.1.1, ⟨hk.1.2.1, ⟨hk.2, ⟨hk.1.2.2.1, hk.1.2.2.2⟩⟩⟩⟩)⟩, ⟨by (with_reducible repeat (first | apply Kd.N_alloc | apply Kd.N_drewN | apply Kd.N_drew)); exact Kd.N_mono HO_211000.out (fun _ hk => ⟨hk.1.1, ⟨hk.2, ⟨hk.1.2.1, hk.1.2.2⟩⟩⟩)⟩, ⟨by (with_reducible repeat (first | apply Kd.R_alloc | apply Kd.R_drewN | apply Kd.R_drew)); exact HO216.out⟩, ⟨by (with_reducible repeat (first | apply zn_ | apply zd_ | apply za_)); exact BK202.out⟩, ⟨by (with_reducible repeat (first | apply zn_ | apply zd_ | apply za_)); exact BK210.out⟩, ⟨by repeat (first | (with_reducible first | exact HB.out | apply pa_ | apply pd_ | apply p1_ | refine zs_ ?_ GE202.out | refine zs_ ?_ GE210.out) | exact HB.out)⟩⟩
                rw [if_neg c36] at H
                exact absurd H (by simp)
              rw [if_neg c35] at H
              exact absurd H (by simp)
            rw [if_neg c34] at H
            have c34b0 : decide (x11_2 < (l2.length : Int)) = false := decide_eq_false c34
            clear c34
            replace H := Option.bind_eq_some_iff.mp H
            obtain ⟨t212, A550, H⟩ := H
            replace H : (some (decide (t212 ≥ (wrap64 (2 * (l0_2.length : Int)))))) = some r := H
            have A55 := ak_ A550
            clear A550
            obtain rfl := Option.some.inj H
            try go_wp2
            have n0_ := ak_ (Kd.V_drew HO_203002.out)
            have n1_ := ak_ (Kd.N_drew HO_211000.out)
            have n2_ := ak_ (Kd.R_drew HO_211001.out)
            have n3_ := ak_ (zd_ BK202.out)
            have n4_ := ak_ (zd_ BK210.out)
            have n5_ := ak_ (p1_ HB.out)
            clear HO_203002
            clear HO_211000
            clear HO_211001
            clear BK202
            clear BK210
            clear HB
            have HO_203002 := n0_
            have HO_211000 := n1_
            have HO_211001 := n2_
            have BK202 := n3_
            have BK210 := n4_
            have HB := n5_
            clear n0_ n1_ n2_ n3_ n4_ n5_
            refine start_ (n := 8) (S := fun w' => w'.cell? ⟨gb202, 0, none⟩ = some (.string a0_0) ∧ w'.cell? ⟨gb202, 1, none⟩ = some (.int .i64 a0_1) ∧ w'.cell? ⟨gb202, 2, none⟩ = some (.slice A0_2 l0_2.length c0_2)) (ds := []) #[false, false, false, false, false, false, false, false] (by kernel_rfl) rfl rfl ⟨(zc_ BK202.out 0).trans rfl, (zc_ BK202.out 1).trans rfl, (zc_ BK202.out 2).trans rfl⟩ (fun hHeld => ?_); refine with_tabW usufructlaw25_BoundCovers.tab16 usufructlaw25_BoundCovers.bits16 (fun HT_ HW_ => ?_)
            generalize wr.drew = w56 at HO_203002 HO_211000 HO_211001 BK202 BK210 HB hHeld ⊢
            refine pure_ (i := 2) (N := some 92) (v := ?_) (a' := ?_) (b_ 8 4) rfl rfl (any_of HT_.out (by kernel_rfl)) (fun _ _ _ h => h) (Or.inl ⟨by rfl, ?_⟩) ?_ ?_; rotate_left; (· intro w'; go_simp; with_reducible rfl); rotate_left; (· simp only [Act.put, sa_, sz_, ss_, i64_w, i32_w]; rfl)
            refine take_ (i := 0) (N := some 90) (v := ?_) (a' := ?_) (b_ 8 5) rfl rfl (take_ofW HT_.out HW_.out (by kernel_rfl)) (fun _ _ _ h => h) (Or.inl ⟨by rfl, ?_⟩) hHeld ?_ ?_
            rotate_left
            · rintro w' ⟨s0, s1, s2⟩
              go_simp
              with_reducible rfl
            rotate_left
            · simp only [Act.put, sa_, sz_, ss_, i64_w, i32_w]
              rfl
            refine take_ (i := 3) (N := some 93) (v := ?_) (a' := ?_) (b_ 8 13) rfl rfl (take_ofW HT_.out HW_.out (by kernel_rfl)) (fun _ _ _ h => h) (Or.inl ⟨by rfl, ?_⟩) hHeld ?_ ?_
            rotate_left
            · rintro w' ⟨s0, s1, s2⟩
              go_simp
              with_reducible rfl
            rotate_left
            · simp only [Act.put, sa_, sz_, ss_, i64_w, i32_w]
              rfl
            refine pure_ (i := 4) (N := some 94) (v := ?_) (a' := ?_) (b_ 8 29) rfl rfl (any_of HT_.out (by kernel_rfl)) (fun _ _ _ h => h) (Or.inl ⟨by rfl, ?_⟩) ?_ ?_; rotate_left; (· intro w'; go_simp; with_reducible rfl); rotate_left; (· simp only [Act.put, sa_, sz_, ss_, i64_w, i32_w]; rfl)
            refine pure_ (i := 5) (N := some 95) (v := ?_) (a' := ?_) (b_ 8 61) rfl rfl (any_of HT_.out (by kernel_rfl)) (fun _ _ _ h => h) (Or.inl ⟨by rfl, ?_⟩) ?_ ?_; rotate_left; (· intro w'; go_simp; with_reducible rfl); rotate_left; (· simp only [Act.put, sa_, sz_, ss_, i64_w, i32_w]; rfl)
            refine one_ (i := 1) (N := some 91) (b_ 8 63) rfl rfl (one_of HT_.out (by kernel_rfl)) (by decide) (fun K hK => ?_)
            refine goes_ Try.func13 (by kernel_rfl) rfl #[.agg #[.string a0_0, .int .i64 a0_1, .slice A0_2 l0_2.length c0_2]] (by rfl) rfl rfl (by (try simp only [List.map_toArray, List.map_cons, List.map_nil]); first | done | rfl | (simp only [List.length_drop, List.length_take]; rfl)) ?_
            with_reducible refine (bound_Emissions.calls a0_0 a0_1 _ _ l0_2 t212 _ ?side1 ?side2 A55.out).mono ?_
            (case side1 => repeat (first | exact (Kd.V_reads' HO_203002.out).2.2 | (with_reducible refine Kd.C_alloc ?_ _) | (with_reducible refine Kd.C_drewN ?_ _) | (with_reducible refine Kd.C_drew ?_)))
            (case side2 => exact (Kd.V_reads' HO_203002.out).2.1)
            rintro e w57 ⟨rfl, hb⟩
            refine ⟨_, rfl, ?_⟩
            have n0_ := ak_ (Kd.V_below (by (with_reducible repeat (first | apply Kd.V_alloc | apply Kd.V_drewN | apply Kd.V_drew)); exact HO_203002.out) hb)
            have n1_ := ak_ (Kd.N_below (by (with_reducible repeat (first | apply Kd.N_alloc | apply Kd.N_drewN | apply Kd.N_drew)); exact HO_211000.out) hb)
            have n2_ := ak_ (Kd.R_below (by (with_reducible repeat (first | apply Kd.R_alloc | apply Kd.R_drewN | apply Kd.R_drew)); exact HO_211001.out) hb)
            have n3_ := ak_ (blk_below (g := gb202) (o := .cells #[.string a0_0, .int .i64 a0_1, .slice A0_2 l0_2.length c0_2] 28 (0, 0)) (by (with_reducible repeat (first | apply zn_ | apply zd_ | apply za_)); exact BK202.out) hb)
            have n4_ := ak_ (blk_below (g := gb210) (o := .cells #[.slice Ao29 y207.length co29, u211001, .int .i64 (l2.length : Int)] 25 (0, 0)) (by (with_reducible repeat (first | apply zn_ | apply zd_ | apply za_)); exact BK210.out) hb)
            have n5_ := ak_ (ps_ (by repeat (first | (with_reducible first | exact HB.out | apply pa_ | apply pd_ | apply p1_ | refine zs_ ?_ GE202.out | refine zs_ ?_ GE210.out) | exact HB.out)) hb)
            clear HO_203002
            clear HO_211000
            clear HO_211001
            clear BK202
            clear BK210
            clear HB
            have HO_203002 := n0_
            have HO_211000 := n1_
            have HO_211001 := n2_
            have BK202 := n3_
            have BK210 := n4_
            have HB := n5_
            clear n0_ n1_ n2_ n3_ n4_ n5_
            (try clear hb hk hi)
            refine hK.out _ _ ⟨(zc_ BK202.out 0).trans rfl, (zc_ BK202.out 1).trans rfl, (zc_ BK202.out 2).trans rfl⟩ (fun hHeld => ?_)
            clear hK K
            refine norm_ (a' := ?_) ?_ ?_
            rotate_left
            · show Act.put _ (some 91) _ = _
              simp only [Act.put, sa_, sz_, ss_, i64_w, i32_w]
              rfl
            refine pure_ (i := 6) (N := some 96) (v := ?_) (a' := ?_) (b_ 8 127) rfl rfl (any_of HT_.out (by kernel_rfl)) (fun _ _ _ h => h) (Or.inl ⟨by rfl, ?_⟩) ?_ ?_; rotate_left; (· intro w'; go_simp; with_reducible rfl); rotate_left; (· simp only [Act.put, sa_, sz_, ss_, i64_w, i32_w]; rfl)
            refine pure_ (i := 7) (N := some 6) (v := ?_) (a' := ?_) (b_ 8 255) rfl rfl (any_of HT_.out (by kernel_rfl)) (fun _ _ _ h => h) (Or.inl ⟨by rfl, ?_⟩) ?_ ?_; rotate_left; (· intro w'; go_simp; with_reducible rfl); rotate_left; (· simp only [Act.put, sa_, sz_, ss_, i64_w, i32_w]; rfl)
            refine done_ (done_of HT_.out (by kernel_rfl)) ?_
            try go_wp2
            go_ret
            exact ⟨by first | rfl | (simp [errW_none, errW_some] <;> rfl) | (simp [*, errW_none, errW_some] <;> rfl), by repeat (first | (with_reducible first | exact HB.out | apply pa_ | apply pd_ | apply p1_ | refine zs_ ?_ GE202.out | refine zs_ ?_ GE210.out) | exact HB.out)⟩
  replace c5 := Bool.eq_false_iff.mpr c5
  subst c5
  have H1 : (some false) = some r := by rw [if_neg (show ¬ (false = true) by decide)] at H; exact H
  clear H
  have H := H1
  clear H1
  exact absurd ((Option.some.inj H).trans HTR_.out) (by decide)

end Go.Proofs.Ytookpfpmobbhiaa.Q
