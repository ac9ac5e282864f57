-- written for this claim by a program of the session
import Derived.Test.YtcgpbakimkhdpaaQx0
import Derived.Test.YtcgpbakimkhdpaaQx4
namespace Go.Proofs.Ytcgpbakimkhdpaa.Q
open Go.RowKit Go.Proofs.YtcgpbakimkhdpaaW.PrintWords Go.Proofs.YtcgpbakimkhdpaaW.PrintLast Go.Proofs.YtcgpbakimkhdpaaW.PrintMore
attribute [local go_sem] max2_int min2_int max_two min_two max_three min_three max_four min_four   -- for this text's walks alone
set_option linter.unusedVariables false
set_option linter.unusedSimpArgs false

/-! ### usufructref04_Take: function 32 -/
mutual
def usufructref04_Take.j0 : Nat → Bool → ByteArray → Int → Int → Int → Int → ByteArray → Bool → Option (ByteArray × Int × Int × Int × Int × ByteArray × Bool × Int)
  | 0, _, _, _, _, _, _, _, _ => none
  | k + 1, x46, x109000, x109001, x109002, x109003, x109004, x109005, x109006 => if x46 = true then ((usufructref04_fail.f x109000 x109001 x109002 x109003 x109004 x109005 x109006 x109001 4).bind fun bt117 => (some (bt117.1, bt117.2.1, bt117.2.2.1, bt117.2.2.2.1, bt117.2.2.2.2.1, bt117.2.2.2.2.2.1, bt117.2.2.2.2.2.2, 0))) else (usufructref04_Take.l0 k 0 0 x109000 x109001 x109002 x109003 x109004 x109005 x109006)
def usufructref04_Take.l0 : Nat → Int → Int → ByteArray → Int → Int → Int → Int → ByteArray → Bool → Option (ByteArray × Int × Int × Int × Int × ByteArray × Bool × Int)
  | 0, _, _, _, _, _, _, _, _, _ => none
  | k + 1, x4, x5, x109000, x109001, x109002, x109003, x109004, x109005, x109006 => if x5 < 8 then (if 0 ≤ (wrap64 (x109001 + x5)) then (if (wrap64 (x109001 + x5)) < (x109000.size : Int) then (usufructref04_Take.l0 k (wrap64 ((wrap64 (256 * x4)) + (wrap64 (bt x109000 (wrap64 (x109001 + x5)))))) (wrap64 (x5 + 1)) x109000 x109001 x109002 x109003 x109004 x109005 x109006) else (none)) else (none)) else (some (x109000, wrap64 (x109001 + 8), x109002, x109003, x109004, x109005, x109006, x4))
end
def usufructref04_Take.f (k : Nat) (a0_0 : ByteArray) (a0_1 : Int) (a0_2 : Int) (a0_3 : Int) (a0_4 : Int) (a0_5 : ByteArray) (a0_6 : Bool) : Option (ByteArray × Int × Int × Int × Int × ByteArray × Bool × Int) := if a0_2 = 0 then (if (wrap64 ((a0_0.size : Int) - a0_1)) < 8 then ((usufructref04_fail.f a0_0 a0_1 a0_2 a0_3 a0_4 a0_5 a0_6 a0_1 2).bind fun bt110 => (some (bt110.1, bt110.2.1, bt110.2.2.1, bt110.2.2.2.1, bt110.2.2.2.2.1, bt110.2.2.2.2.2.1, bt110.2.2.2.2.2.2, 0))) else (if 0 ≤ a0_1 then (if a0_1 < (a0_0.size : Int) then (if (bt a0_0 a0_1) > 64 then (usufructref04_Take.j0 k true a0_0 a0_1 a0_2 a0_3 a0_4 a0_5 a0_6) else (if (bt a0_0 a0_1) = 64 then (if 0 ≤ (wrap64 (a0_1 + 1)) then (if (wrap64 (a0_1 + 1)) ≤ (wrap64 (a0_1 + 8)) then (if (wrap64 (a0_1 + 8)) ≤ (a0_0.size : Int) then (usufructref04_Take.j0 k ((a0_0.extract ((wrap64 (a0_1 + 1)) : Int).toNat ((wrap64 (a0_1 + 8)) : Int).toNat).toList != ([0, 0, 0, 0, 0, 0, 0] : List UInt8)) a0_0 a0_1 a0_2 a0_3 a0_4 a0_5 a0_6) else (none)) else (none)) else (none)) else (usufructref04_Take.j0 k false a0_0 a0_1 a0_2 a0_3 a0_4 a0_5 a0_6))) else (none)) else (none))) else (some (a0_0, a0_1, a0_2, a0_3, a0_4, a0_5, a0_6, 0))
theorem usufructref04_Take.mono_l : ∀ k, (∀ y0 y1 y2 y3 y4 y5 y6 y7, LeO (usufructref04_Take.j0 k y0 y1 y2 y3 y4 y5 y6 y7) (usufructref04_Take.j0 (k + 1) y0 y1 y2 y3 y4 y5 y6 y7)) ∧ (∀ y0 y1 y2 y3 y4 y5 y6 y7 y8, LeO (usufructref04_Take.l0 k y0 y1 y2 y3 y4 y5 y6 y7 y8) (usufructref04_Take.l0 (k + 1) y0 y1 y2 y3 y4 y5 y6 y7 y8))
  | 0 => ⟨fun _ _ _ _ _ _ _ _ r h => by simp [usufructref04_Take.j0] at h, fun _ _ _ _ _ _ _ _ _ r h => by simp [usufructref04_Take.l0] at h⟩
  | k + 1 => by
    obtain ⟨ih0, ih1⟩ := usufructref04_Take.mono_l k
    refine ⟨?_, ?_⟩
    · intro y0 y1 y2 y3 y4 y5 y6 y7
      unfold usufructref04_Take.j0
      repeat' first
      | (with_reducible exact ih0 _ _ _ _ _ _ _ _)
      | (with_reducible exact ih1 _ _ _ _ _ _ _ _ _)
      | (with_reducible exact LeO.refl _)
      | (with_reducible exact LeO.none _)
      | (with_reducible refine LeO.ite ?_ ?_)
      | (with_reducible refine LeO.bind ?_ (fun _ => ?_))
      | exact ih0 _ _ _ _ _ _ _ _
      | exact ih1 _ _ _ _ _ _ _ _ _
      | exact LeO.none _
      | refine LeO.ite ?_ ?_
      | refine LeO.bind ?_ (fun _ => ?_)
    · intro y0 y1 y2 y3 y4 y5 y6 y7 y8
      unfold usufructref04_Take.l0
      repeat' first
      | (with_reducible exact ih0 _ _ _ _ _ _ _ _)
      | (with_reducible exact ih1 _ _ _ _ _ _ _ _ _)
      | (with_reducible exact LeO.refl _)
      | (with_reducible exact LeO.none _)
      | (with_reducible refine LeO.ite ?_ ?_)
      | (with_reducible refine LeO.bind ?_ (fun _ => ?_))
      | exact ih0 _ _ _ _ _ _ _ _
      | exact ih1 _ _ _ _ _ _ _ _ _
      | exact LeO.none _
      | refine LeO.ite ?_ ?_
      | refine LeO.bind ?_ (fun _ => ?_)
theorem usufructref04_Take.mono : ∀ a0 a1 a2 a3 a4 a5 a6 k, LeO (usufructref04_Take.f k a0 a1 a2 a3 a4 a5 a6) (usufructref04_Take.f (k + 1) a0 a1 a2 a3 a4 a5 a6) := by
  intro a0 a1 a2 a3 a4 a5 a6 k
  obtain ⟨ih0, ih1⟩ := usufructref04_Take.mono_l k
  unfold usufructref04_Take.f
  repeat' first
      | (with_reducible exact ih0 _ _ _ _ _ _ _ _)
      | (with_reducible exact ih1 _ _ _ _ _ _ _ _ _)
      | (with_reducible exact LeO.refl _)
      | (with_reducible exact LeO.none _)
      | (with_reducible refine LeO.ite ?_ ?_)
      | (with_reducible refine LeO.bind ?_ (fun _ => ?_))
      | exact ih0 _ _ _ _ _ _ _ _
      | exact ih1 _ _ _ _ _ _ _ _ _
      | exact LeO.none _
      | refine LeO.ite ?_ ?_
      | refine LeO.bind ?_ (fun _ => ?_)
namespace usufructref04_Take
theorem mt_ {α β : Type} {f : α → β} {l : List α} : l.toArray.map f = (l.map f).toArray := List.map_toArray
theorem mc_ {α β : Type} {f : α → β} {a : α} {l : List α} : (a :: l).map f = f a :: l.map f := rfl
theorem mn_ {α β : Type} {f : α → β} : ([] : List α).map f = [] := rfl
abbrev zn_ := @blk_drewN
abbrev zd_ := @blk_drew
abbrev za_ := @blk_alloc
abbrev zf_ := @blk_frozen
abbrev zc_ := @blk_cell
abbrev zs_ := @below_set
abbrev zr_ := @blk_far
abbrev zp_ := @blk_put
abbrev pd_ := @pw_below_drewN
abbrev p1_ := @below_drew1
abbrev pa_ := @below_alloc
abbrev ak_ := @Aside0.mk
abbrev bl_ := @World.block_lt_of_cell?
abbrev ps_ := @below_step
def b_ (n k : Nat) : Array Bool := ((List.range n).map fun i => k.testBit i).toArray
theorem sa_ {α : Type} {l : List α} {i : Nat} {a : α} : l.toArray.setIfInBounds i a = (l.set i a).toArray := List.setIfInBounds_toArray l i a
theorem sz_ {α : Type} {a b : α} {l : List α} : (a :: l).set 0 b = b :: l := rfl
theorem ss_ {α : Type} {a b : α} {l : List α} {n : Nat} : (a :: l).set (n + 1) b = a :: l.set n b := rfl
end usufructref04_Take
open usufructref04_Take in
set_option maxHeartbeats 8000000 in
set_option maxRecDepth 100000 in
theorem usufructref04_Take.calls (k : Nat) (a0_0 : ByteArray) (a0_1 : Int) (a0_2 : Int) (a0_3 : Int) (a0_4 : Int) (a0_5 : ByteArray) (a0_6 : Bool) (r1 : ByteArray) (r2 : Int) (r3 : Int) (r4 : Int) (r5 : Int) (r6 : ByteArray) (r7 : Bool) (r8 : Int) (w : World) (h : usufructref04_Take.f k a0_0 a0_1 a0_2 a0_3 a0_4 a0_5 a0_6 = some (r1, r2, r3, r4, r5, r6, r7, r8)) :
    Calls Try.prog 32 #[.agg #[.string a0_0, .int .i64 a0_1, .int .i64 a0_2, .int .i64 a0_3, .int .i64 a0_4, .string a0_5, .bool a0_6]] w fun e w' => e = .returned (.tuple #[.agg #[.string r1, .int .i64 r2, .int .i64 r3, .int .i64 r4, .int .i64 r5, .string r6, .bool r7], .int .i64 r8]) ∧ Below w.heap.size w w' := by
  have hu53 := Try.underlying53
  have HB := ak_ (Below.refl w.heap.size w)
  have H : (if a0_2 = 0 then (if (wrap64 ((a0_0.size : Int) - a0_1)) < 8 then ((usufructref04_fail.f a0_0 a0_1 a0_2 a0_3 a0_4 a0_5 a0_6 a0_1 2).bind fun bt110 => (some (bt110.1, bt110.2.1, bt110.2.2.1, bt110.2.2.2.1, bt110.2.2.2.2.1, bt110.2.2.2.2.2.1, bt110.2.2.2.2.2.2, 0))) else (if 0 ≤ a0_1 then (if a0_1 < (a0_0.size : Int) then (if (bt a0_0 a0_1) > 64 then (usufructref04_Take.j0 k true a0_0 a0_1 a0_2 a0_3 a0_4 a0_5 a0_6) else (if (bt a0_0 a0_1) = 64 then (if 0 ≤ (wrap64 (a0_1 + 1)) then (if (wrap64 (a0_1 + 1)) ≤ (wrap64 (a0_1 + 8)) then (if (wrap64 (a0_1 + 8)) ≤ (a0_0.size : Int) then (usufructref04_Take.j0 k ((a0_0.extract ((wrap64 (a0_1 + 1)) : Int).toNat ((wrap64 (a0_1 + 8)) : Int).toNat).toList != ([0, 0, 0, 0, 0, 0, 0] : List UInt8)) a0_0 a0_1 a0_2 a0_3 a0_4 a0_5 a0_6) else (none)) else (none)) else (none)) else (usufructref04_Take.j0 k false a0_0 a0_1 a0_2 a0_3 a0_4 a0_5 a0_6))) else (none)) else (none))) else (some (a0_0, a0_1, a0_2, a0_3, a0_4, a0_5, a0_6, 0))) = some (r1, r2, r3, r4, r5, r6, r7, r8) := h
  clear h
  by_cases c2 : a0_2 = 0
  · rw [if_pos c2] at H
    have c2b0 : (a0_2 == 0) = true := beq_iff_eq.mpr c2
    have c2b1 : (a0_2 != 0) = false := bne_eq_false_iff_eq.mpr c2
    clear c2
    by_cases c3 : (wrap64 ((a0_0.size : Int) - a0_1)) < 8
    · rw [if_pos c3] at H
      have c3b0 : decide ((wrap64 ((a0_0.size : Int) - a0_1)) < 8) = true := decide_eq_true c3
      clear c3
      replace H := Option.bind_eq_some_iff.mp H
      obtain ⟨⟨t110, t111, t112, t113, t114, t115, t116⟩, A40, H⟩ := H
      replace H : (some (t110, t111, t112, t113, t114, t115, t116, 0)) = some (r1, r2, r3, r4, r5, r6, r7, r8) := H
      have A4 := ak_ A40
      clear A40
      simp only [Option.some.injEq, Prod.mk.injEq] at H
      obtain ⟨rfl, rfl, rfl, rfl, rfl, rfl, rfl, rfl⟩ := H
      go_enter Try.func32, Try.ntmps32
      go_wp2_with (first | ((with_reducible refine gate_dst (N := 1) rfl ?_); refine box_event ?hg (N := 1) ?hd (cs := #[.string a0_0, .int .i64 a0_1, .int .i64 a0_2, .int .i64 a0_3, .int .i64 a0_4, .string a0_5, .bool a0_6]) (t := 53) ?hr ?_; (case hd => rfl); (case hg => rfl); (case hr => first | (go_simp; done) | (go_simp; rfl)); intro gb108 hg w5 hbox hb; have n0_ := ak_ (ps_ (by repeat (first | (with_reducible first | exact HB.out | apply pa_ | apply pd_ | apply p1_) | exact HB.out)) hb); have n1_ := ak_ (hbox); have n2_ := ak_ ((by rw [hg]; exact (below_size (by repeat (first | (with_reducible first | exact HB.out | apply pa_ | apply pd_ | apply p1_) | exact HB.out))) : w.heap.size ≤ gb108)); have n3_ := ak_ ((by rw [hg]; exact (below_size (by repeat (first | (with_reducible first | exact HB.out | apply pa_ | apply pd_ | apply p1_) | exact HB.out))) : w.heap.size ≤ gb108)); clear HB; have HB := n0_; have BK108 := n1_; have GW108 := n2_; have GE108 := n3_; clear n0_ n1_ n2_ n3_; clear hb hbox hg) | ((with_reducible refine gate_dst (N := 2) rfl ?_); refine box_event ?hg (N := 2) ?hd (cs := #[.string ⟨#[]⟩, .int .i64 0, .int .i64 0, .int .i64 0, .int .i64 0, .string ⟨#[]⟩, .bool false]) (t := 53) ?hr ?_; (case hd => rfl); (case hg => rfl); (case hr => first | (go_simp; done) | (go_simp; rfl)); intro gb109 hg w6 hbox hb; have n0_ := ak_ (blk_below (g := gb108) (o := .cells #[.string a0_0, .int .i64 a0_1, .int .i64 a0_2, .int .i64 a0_3, .int .i64 a0_4, .string a0_5, .bool a0_6] 53 (0, 0)) (by (with_reducible repeat (first | apply zn_ | apply zd_ | apply za_)); exact BK108.out) hb); have n1_ := ak_ (ps_ (by repeat (first | (with_reducible first | exact HB.out | apply pa_ | apply pd_ | apply p1_ | refine zs_ ?_ GE108.out) | exact HB.out)) hb); have n2_ := ak_ (hbox); have n3_ := ak_ ((by rw [hg]; exact (below_size (by repeat (first | (with_reducible first | exact HB.out | apply pa_ | apply pd_ | apply p1_ | refine zs_ ?_ GE108.out) | exact HB.out))) : w.heap.size ≤ gb109)); have n4_ := ak_ ((by rw [hg]; exact (below_size (by repeat (first | (with_reducible first | exact HB.out | apply pa_ | apply pd_ | apply p1_ | refine zs_ ?_ GE108.out) | exact HB.out))) : w.heap.size ≤ gb109)); have n5_ := ak_ ((by rw [hg]; exact Nat.ne_of_lt (blk_lt (g := gb108) (o := .cells #[.string a0_0, .int .i64 a0_1, .int .i64 a0_2, .int .i64 a0_3, .int .i64 a0_4, .string a0_5, .bool a0_6] 53 (0, 0)) (by (with_reducible repeat (first | apply zn_ | apply zd_ | apply za_)); exact BK108.out)) : gb108 ≠ gb109)); have n6_ := ak_ ((by rw [hg]; exact Nat.ne_of_gt (blk_lt (g := gb108) (o := .cells #[.string a0_0, .int .i64 a0_1, .int .i64 a0_2, .int .i64 a0_3, .int .i64 a0_4, .string a0_5, .bool a0_6] 53 (0, 0)) (by (with_reducible repeat (first | apply zn_ | apply zd_ | apply za_)); exact BK108.out)) : gb109 ≠ gb108)); clear BK108; clear HB; have BK108 := n0_; have HB := n1_; have BK109 := n2_; have GW109 := n3_; have GE109 := n4_; have NB108_109 := n5_; have NB109_108 := n6_; clear n0_ n1_ n2_ n3_ n4_ n5_ n6_; clear hb hbox hg; have hnb7 := NB108_109.out; have hnc7 := NB109_108.out; have hcz8_0 : w6.cell? ⟨gb108, 0, none⟩ = some (.string a0_0) := (zc_ BK108.out 0).trans rfl; have hcz8_1 : w6.cell? ⟨gb108, 1, none⟩ = some (.int .i64 a0_1) := (zc_ BK108.out 1).trans rfl; have hcz8_2 : w6.cell? ⟨gb108, 2, none⟩ = some (.int .i64 a0_2) := (zc_ BK108.out 2).trans rfl; have hcz8_3 : w6.cell? ⟨gb108, 3, none⟩ = some (.int .i64 a0_3) := (zc_ BK108.out 3).trans rfl; have hcz8_4 : w6.cell? ⟨gb108, 4, none⟩ = some (.int .i64 a0_4) := (zc_ BK108.out 4).trans rfl; have hcz8_5 : w6.cell? ⟨gb108, 5, none⟩ = some (.string a0_5) := (zc_ BK108.out 5).trans rfl; have hcz8_6 : w6.cell? ⟨gb108, 6, none⟩ = some (.bool a0_6) := (zc_ BK108.out 6).trans rfl; have hfz8_0 := zf_ BK108.out 0; have hfz8_1 := zf_ BK108.out 1; have hfz8_2 := zf_ BK108.out 2; have hfz8_3 := zf_ BK108.out 3; have hfz8_4 := zf_ BK108.out 4; have hfz8_5 := zf_ BK108.out 5; have hfz8_6 := zf_ BK108.out 6) | ((with_reducible refine gate_callee (f := 35) rfl ?_); refine goesL_ (some 20) rfl rfl Try.func35 (by kernel_rfl) rfl #[.agg #[.string a0_0, .int .i64 a0_1, .int .i64 a0_2, .int .i64 a0_3, .int .i64 a0_4, .string a0_5, .bool a0_6], .int .i64 a0_1, .int .i64 2] rfl (by (try simp only [List.map_toArray, List.map_cons, List.map_nil]); first | done | rfl | (simp only [List.length_drop, List.length_take]; rfl)) ?_; (with_reducible refine (usufructref04_fail.calls a0_0 a0_1 a0_2 a0_3 a0_4 a0_5 a0_6 a0_1 2 t110 t111 t112 t113 t114 t115 t116 _ A4.out).mono ?_); rintro e w9 ⟨rfl, hb⟩; refine ⟨_, rfl, ?_⟩; have n0_ := ak_ (blk_below (g := gb108) (o := .cells #[.string a0_0, .int .i64 a0_1, .int .i64 a0_2, .int .i64 a0_3, .int .i64 a0_4, .string a0_5, .bool a0_6] 53 (0, 0)) (by (with_reducible repeat (first | apply zn_ | apply zd_ | apply za_)); exact BK108.out) hb); have n1_ := ak_ (blk_below (g := gb109) (o := .cells #[.string ⟨#[]⟩, .int .i64 0, .int .i64 0, .int .i64 0, .int .i64 0, .string ⟨#[]⟩, .bool false] 53 (0, 0)) (by (with_reducible repeat (first | apply zn_ | apply zd_ | apply za_)); exact BK109.out) hb); have n2_ := ak_ (ps_ (by repeat (first | (with_reducible first | exact HB.out | apply pa_ | apply pd_ | apply p1_ | refine zs_ ?_ GE108.out | refine zs_ ?_ GE109.out) | exact HB.out)) hb); clear BK108; clear BK109; clear HB; have BK108 := n0_; have BK109 := n1_; have HB := n2_; clear n0_ n1_ n2_; (try clear hb hk hi); have hcz10_0 : w9.cell? ⟨gb109, 0, none⟩ = some (.string ⟨#[]⟩) := (zc_ BK109.out 0).trans rfl; have hcz10_1 : w9.cell? ⟨gb109, 1, none⟩ = some (.int .i64 0) := (zc_ BK109.out 1).trans rfl; have hcz10_2 : w9.cell? ⟨gb109, 2, none⟩ = some (.int .i64 0) := (zc_ BK109.out 2).trans rfl; have hcz10_3 : w9.cell? ⟨gb109, 3, none⟩ = some (.int .i64 0) := (zc_ BK109.out 3).trans rfl; have hcz10_4 : w9.cell? ⟨gb109, 4, none⟩ = some (.int .i64 0) := (zc_ BK109.out 4).trans rfl; have hcz10_5 : w9.cell? ⟨gb109, 5, none⟩ = some (.string ⟨#[]⟩) := (zc_ BK109.out 5).trans rfl; have hcz10_6 : w9.cell? ⟨gb109, 6, none⟩ = some (.bool false) := (zc_ BK109.out 6).trans rfl; have hfz10_0 := zf_ BK109.out 0; have hfz10_1 := zf_ BK109.out 1; have hfz10_2 := zf_ BK109.out 2; have hfz10_3 := zf_ BK109.out 3; have hfz10_4 := zf_ BK109.out 4; have hfz10_5 := zf_ BK109.out 5; have hfz10_6 := zf_ BK109.out 6))
      refine bodyPost_ret (results_ct rfl _ _ gb109 53 #[.string t110, .int .i64 t111, .int .i64 t112, .int .i64 t113, .int .i64 t114, .string t115, .bool t116] (0, 0) _ rfl (by (with_reducible repeat (first | apply zn_ | apply zd_ | apply za_)); refine zp_ (cs := #[.string t110, .int .i64 t111, .int .i64 t112, .int .i64 t113, .int .i64 t114, .string t115, .bool false]) ?_ 6 _ rfl; (with_reducible repeat (first | apply zn_ | apply zd_ | apply za_)); refine zp_ (cs := #[.string t110, .int .i64 t111, .int .i64 t112, .int .i64 t113, .int .i64 t114, .string ⟨#[]⟩, .bool false]) ?_ 5 _ rfl; (with_reducible repeat (first | apply zn_ | apply zd_ | apply za_)); refine zp_ (cs := #[.string t110, .int .i64 t111, .int .i64 t112, .int .i64 t113, .int .i64 0, .string ⟨#[]⟩, .bool false]) ?_ 4 _ rfl; (with_reducible repeat (first | apply zn_ | apply zd_ | apply za_)); refine zp_ (cs := #[.string t110, .int .i64 t111, .int .i64 t112, .int .i64 0, .int .i64 0, .string ⟨#[]⟩, .bool false]) ?_ 3 _ rfl; (with_reducible repeat (first | apply zn_ | apply zd_ | apply za_)); refine zp_ (cs := #[.string t110, .int .i64 t111, .int .i64 0, .int .i64 0, .int .i64 0, .string ⟨#[]⟩, .bool false]) ?_ 2 _ rfl; (with_reducible repeat (first | apply zn_ | apply zd_ | apply za_)); refine zp_ (cs := #[.string t110, .int .i64 0, .int .i64 0, .int .i64 0, .int .i64 0, .string ⟨#[]⟩, .bool false]) ?_ 1 _ rfl; (with_reducible repeat (first | apply zn_ | apply zd_ | apply za_)); refine zp_ (cs := #[.string ⟨#[]⟩, .int .i64 0, .int .i64 0, .int .i64 0, .int .i64 0, .string ⟨#[]⟩, .bool false]) ?_ 0 _ rfl; (with_reducible repeat (first | apply zn_ | apply zd_ | apply za_)); exact BK109.out) Try.underlying53 rfl (by kernel_rfl)) rfl ?_
      exact ⟨by first | rfl | (simp [errW_none, errW_some] <;> rfl) | (simp [*, errW_none, errW_some] <;> rfl), by repeat (first | (with_reducible first | exact HB.out | apply pa_ | apply pd_ | apply p1_ | refine zs_ ?_ GE108.out | refine zs_ ?_ GE109.out) | exact HB.out)⟩
    rw [if_neg c3] at H
    have c3b0 : decide ((wrap64 ((a0_0.size : Int) - a0_1)) < 8) = false := decide_eq_false c3
    clear c3
    have HC11 := ak_ H
    clear H
    go_enter Try.func32, Try.ntmps32
    go_upto_region 5 with (first | ((with_reducible refine gate_dst (N := 1) rfl ?_); refine box_event ?hg (N := 1) ?hd (cs := #[.string a0_0, .int .i64 a0_1, .int .i64 a0_2, .int .i64 a0_3, .int .i64 a0_4, .string a0_5, .bool a0_6]) (t := 53) ?hr ?_; (case hd => rfl); (case hg => rfl); (case hr => first | (go_simp; done) | (go_simp; rfl)); intro gb108 hg w12 hbox hb; have n0_ := ak_ (ps_ (by repeat (first | (with_reducible first | exact HB.out | apply pa_ | apply pd_ | apply p1_) | exact HB.out)) hb); have n1_ := ak_ (hbox); have n2_ := ak_ ((by rw [hg]; exact (below_size (by repeat (first | (with_reducible first | exact HB.out | apply pa_ | apply pd_ | apply p1_) | exact HB.out))) : w.heap.size ≤ gb108)); have n3_ := ak_ ((by rw [hg]; exact (below_size (by repeat (first | (with_reducible first | exact HB.out | apply pa_ | apply pd_ | apply p1_) | exact HB.out))) : w.heap.size ≤ gb108)); clear HB; have HB := n0_; have BK108 := n1_; have GW108 := n2_; have GE108 := n3_; clear n0_ n1_ n2_ n3_; clear hb hbox hg) | ((with_reducible refine gate_dst (N := 2) rfl ?_); refine box_event ?hg (N := 2) ?hd (cs := #[.string ⟨#[]⟩, .int .i64 0, .int .i64 0, .int .i64 0, .int .i64 0, .string ⟨#[]⟩, .bool false]) (t := 53) ?hr ?_; (case hd => rfl); (case hg => rfl); (case hr => first | (go_simp; done) | (go_simp; rfl)); intro gb109 hg w13 hbox hb; have n0_ := ak_ (blk_below (g := gb108) (o := .cells #[.string a0_0, .int .i64 a0_1, .int .i64 a0_2, .int .i64 a0_3, .int .i64 a0_4, .string a0_5, .bool a0_6] 53 (0, 0)) (by (with_reducible repeat (first | apply zn_ | apply zd_ | apply za_)); exact BK108.out) hb); have n1_ := ak_ (ps_ (by repeat (first | (with_reducible first | exact HB.out | apply pa_ | apply pd_ | apply p1_ | refine zs_ ?_ GE108.out) | exact HB.out)) hb); have n2_ := ak_ (hbox); have n3_ := ak_ ((by rw [hg]; exact (below_size (by repeat (first | (with_reducible first | exact HB.out | apply pa_ | apply pd_ | apply p1_ | refine zs_ ?_ GE108.out) | exact HB.out))) : w.heap.size ≤ gb109)); have n4_ := ak_ ((by rw [hg]; exact (below_size (by repeat (first | (with_reducible first | exact HB.out | apply pa_ | apply pd_ | apply p1_ | refine zs_ ?_ GE108.out) | exact HB.out))) : w.heap.size ≤ gb109)); have n5_ := ak_ ((by rw [hg]; exact Nat.ne_of_lt (blk_lt (g := gb108) (o := .cells #[.string a0_0, .int .i64 a0_1, .int .i64 a0_2, .int .i64 a0_3, .int .i64 a0_4, .string a0_5, .bool a0_6] 53 (0, 0)) (by (with_reducible repeat (first | apply zn_ | apply zd_ | apply za_)); exact BK108.out)) : gb108 ≠ gb109)); have n6_ := ak_ ((by rw [hg]; exact Nat.ne_of_gt (blk_lt (g := gb108) (o := .cells #[.string a0_0, .int .i64 a0_1, .int .i64 a0_2, .int .i64 a0_3, .int .i64 a0_4, .string a0_5, .bool a0_6] 53 (0, 0)) (by (with_reducible repeat (first | apply zn_ | apply zd_ | apply za_)); exact BK108.out)) : gb109 ≠ gb108)); clear BK108; clear HB; have BK108 := n0_; have HB := n1_; have BK109 := n2_; have GW109 := n3_; have GE109 := n4_; have NB108_109 := n5_; have NB109_108 := n6_; clear n0_ n1_ n2_ n3_ n4_ n5_ n6_; clear hb hbox hg; have hnb14 := NB108_109.out; have hnc14 := NB109_108.out; have hcz15_0 : w13.cell? ⟨gb108, 0, none⟩ = some (.string a0_0) := (zc_ BK108.out 0).trans rfl; have hcz15_1 : w13.cell? ⟨gb108, 1, none⟩ = some (.int .i64 a0_1) := (zc_ BK108.out 1).trans rfl; have hcz15_2 : w13.cell? ⟨gb108, 2, none⟩ = some (.int .i64 a0_2) := (zc_ BK108.out 2).trans rfl; have hcz15_3 : w13.cell? ⟨gb108, 3, none⟩ = some (.int .i64 a0_3) := (zc_ BK108.out 3).trans rfl; have hcz15_4 : w13.cell? ⟨gb108, 4, none⟩ = some (.int .i64 a0_4) := (zc_ BK108.out 4).trans rfl; have hcz15_5 : w13.cell? ⟨gb108, 5, none⟩ = some (.string a0_5) := (zc_ BK108.out 5).trans rfl; have hcz15_6 : w13.cell? ⟨gb108, 6, none⟩ = some (.bool a0_6) := (zc_ BK108.out 6).trans rfl; have hfz15_0 := zf_ BK108.out 0; have hfz15_1 := zf_ BK108.out 1; have hfz15_2 := zf_ BK108.out 2; have hfz15_3 := zf_ BK108.out 3; have hfz15_4 := zf_ BK108.out 4; have hfz15_5 := zf_ BK108.out 5; have hfz15_6 := zf_ BK108.out 6))
    (try simp only [Act.put, sa_, sz_, ss_])
    go_cut [46] (fun v46 wc => ∃ (kq : Nat) (x46_10 : Bool), v46 = .bool x46_10 ∧ Aside0 (usufructref04_Take.j0 kq x46_10 a0_0 a0_1 a0_2 a0_3 a0_4 a0_5 a0_6 = some (r1, r2, r3, r4, r5, r6, r7, r8)) ∧ Aside0 (kq ≤ k) ∧ Aside0 (wc.heap[gb108]? = some (.cells #[.string a0_0, .int .i64 a0_1, .int .i64 a0_2, .int .i64 a0_3, .int .i64 a0_4, .string a0_5, .bool a0_6] 53 (0, 0))) ∧ Aside0 (wc.heap[gb109]? = some (.cells #[.string ⟨#[]⟩, .int .i64 0, .int .i64 0, .int .i64 0, .int .i64 0, .string ⟨#[]⟩, .bool false] 53 (0, 0))) ∧ Aside0 (Below w.heap.size w wc))
    case first =>
      have H := HC11.out
      clear HC11
      by_cases c16 : 0 ≤ a0_1
      · rw [if_pos c16] at H
        have c16b0 : decide (0 ≤ a0_1) = true := decide_eq_true c16
        clear c16
        (first | rw [c16b0] | (simp only [i64_w, i32_w]; rw [c16b0]) | skip)
        by_cases c17 : a0_1 < (a0_0.size : Int)
        · rw [if_pos c17] at H
          have c17b0 : decide (a0_1 < (a0_0.size : Int)) = true := decide_eq_true c17
          clear c17
          by_cases c19 : (bt a0_0 a0_1) > 64
          · rw [if_pos c19] at H
            have c19b0 : decide (64 < (bt a0_0 a0_1)) = true := decide_eq_true c19
            clear c19
            have H' := ak_ H
            clear H
            have hnb20 := NB108_109.out
            have hnc20 := NB109_108.out
            have hcz21_0 : w13.cell? ⟨gb108, 0, none⟩ = some (.string a0_0) := (zc_ BK108.out 0).trans rfl
            have hcz21_1 : w13.cell? ⟨gb108, 1, none⟩ = some (.int .i64 a0_1) := (zc_ BK108.out 1).trans rfl
            have hcz21_2 : w13.cell? ⟨gb108, 2, none⟩ = some (.int .i64 a0_2) := (zc_ BK108.out 2).trans rfl
            have hcz21_3 : w13.cell? ⟨gb108, 3, none⟩ = some (.int .i64 a0_3) := (zc_ BK108.out 3).trans rfl
            have hcz21_4 : w13.cell? ⟨gb108, 4, none⟩ = some (.int .i64 a0_4) := (zc_ BK108.out 4).trans rfl
            have hcz21_5 : w13.cell? ⟨gb108, 5, none⟩ = some (.string a0_5) := (zc_ BK108.out 5).trans rfl
            have hcz21_6 : w13.cell? ⟨gb108, 6, none⟩ = some (.bool a0_6) := (zc_ BK108.out 6).trans rfl
            have hfz21_0 := zf_ BK108.out 0
            have hfz21_1 := zf_ BK108.out 1
            have hfz21_2 := zf_ BK108.out 2
            have hfz21_3 := zf_ BK108.out 3
            have hfz21_4 := zf_ BK108.out 4
            have hfz21_5 := zf_ BK108.out 5
            have hfz21_6 := zf_ BK108.out 6
            have p18 : 0 ≤ (a0_1 : Int) := of_decide_eq_true (by assumption)
            have q18 : a0_1 < (a0_0.size : Int) := of_decide_eq_true (by assumption)
            have hx18 := bt_at a0_0 a0_1
            replace p18 := eq_true p18
            replace q18 := eq_true q18
            go_wp2
            go_meet
            case rel => exact ⟨_, (true), (by first | rfl | (simp; done) | (simp [*]; done)), H', ⟨by first | omega | exact Nat.le_refl _⟩, ⟨by (with_reducible repeat (first | apply zn_ | apply zd_ | apply za_)); exact BK108.out⟩, ⟨by (with_reducible repeat (first | apply zn_ | apply zd_ | apply za_)); exact BK109.out⟩, ⟨by repeat (first | (with_reducible first | exact HB.out | apply pa_ | apply pd_ | apply p1_ | refine zs_ ?_ GE108.out | refine zs_ ?_ GE109.out) | exact HB.out)⟩⟩
          rw [if_neg c19] at H
          have c19b0 : decide (64 < (bt a0_0 a0_1)) = false := decide_eq_false c19
          clear c19
          by_cases c23 : (bt a0_0 a0_1) = 64
          · rw [if_pos c23] at H
            have c23b0 : ((bt a0_0 a0_1) == 64) = true := beq_iff_eq.mpr c23
            have c23b1 : ((bt a0_0 a0_1) != 64) = false := bne_eq_false_iff_eq.mpr c23
            clear c23
            obtain ⟨ji24, hji24⟩ : ∃ j_ : Int, (wrap64 (a0_1 + 1)) = j_ := ⟨_, rfl⟩
            replace H : (if 0 ≤ (ji24) then (if (ji24) ≤ (wrap64 (a0_1 + 8)) then (if (wrap64 (a0_1 + 8)) ≤ (a0_0.size : Int) then (usufructref04_Take.j0 k ((a0_0.extract ((ji24) : Int).toNat ((wrap64 (a0_1 + 8)) : Int).toNat).toList != ([0, 0, 0, 0, 0, 0, 0] : List UInt8)) a0_0 a0_1 a0_2 a0_3 a0_4 a0_5 a0_6) else (none)) else (none)) else (none)) = some (r1, r2, r3, r4, r5, r6, r7, r8) := by first | (rw [hji24] at H; exact H) | (simp only [hji24] at H ⊢; exact H)
            have hji24w : (IntKind.i64.wrap (a0_1 + 1)) = ji24 := (i64_w _).trans hji24
            by_cases c25 : 0 ≤ (ji24)
            · rw [if_pos c25] at H
              have c25b0 := eq_true c25
              have c25b1 : decide (0 ≤ (ji24)) = true := decide_eq_true c25
              clear c25
              by_cases c26 : (ji24) ≤ (wrap64 (a0_1 + 8))
              · rw [if_pos c26] at H
                have c26b0 := eq_true c26
                have c26b1 : decide ((ji24) ≤ (wrap64 (a0_1 + 8))) = true := decide_eq_true c26
                by_cases c27 : (wrap64 (a0_1 + 8)) ≤ (a0_0.size : Int)
                · rw [if_pos c27] at H
                  have c27b0 := eq_true c27
                  have c27b1 : decide ((wrap64 (a0_1 + 8)) ≤ (a0_0.size : Int)) = true := decide_eq_true c27
                  have H' := ak_ H
                  clear H
                  have hnb28 := NB108_109.out
                  have hnc28 := NB109_108.out
                  have hcz29_0 : w13.cell? ⟨gb108, 0, none⟩ = some (.string a0_0) := (zc_ BK108.out 0).trans rfl
                  have hcz29_1 : w13.cell? ⟨gb108, 1, none⟩ = some (.int .i64 a0_1) := (zc_ BK108.out 1).trans rfl
                  have hcz29_2 : w13.cell? ⟨gb108, 2, none⟩ = some (.int .i64 a0_2) := (zc_ BK108.out 2).trans rfl
                  have hcz29_3 : w13.cell? ⟨gb108, 3, none⟩ = some (.int .i64 a0_3) := (zc_ BK108.out 3).trans rfl
                  have hcz29_4 : w13.cell? ⟨gb108, 4, none⟩ = some (.int .i64 a0_4) := (zc_ BK108.out 4).trans rfl
                  have hcz29_5 : w13.cell? ⟨gb108, 5, none⟩ = some (.string a0_5) := (zc_ BK108.out 5).trans rfl
                  have hcz29_6 : w13.cell? ⟨gb108, 6, none⟩ = some (.bool a0_6) := (zc_ BK108.out 6).trans rfl
                  have hfz29_0 := zf_ BK108.out 0
                  have hfz29_1 := zf_ BK108.out 1
                  have hfz29_2 := zf_ BK108.out 2
                  have hfz29_3 := zf_ BK108.out 3
                  have hfz29_4 := zf_ BK108.out 4
                  have hfz29_5 := zf_ BK108.out 5
                  have hfz29_6 := zf_ BK108.out 6
                  have p18 : 0 ≤ (a0_1 : Int) := of_decide_eq_true (by assumption)
                  have q18 : a0_1 < (a0_0.size : Int) := of_decide_eq_true (by assumption)
                  have hx18 := bt_at a0_0 a0_1
                  replace p18 := eq_true p18
                  replace q18 := eq_true q18
                  have p22 : 0 ≤ (a0_1 : Int) := of_decide_eq_true (by assumption)
                  have q22 : a0_1 < (a0_0.size : Int) := of_decide_eq_true (by assumption)
                  have hx22 := bt_at a0_0 a0_1
                  replace p22 := eq_true p22
                  replace q22 := eq_true q22
                  go_wp2
                  go_meet
                  case rel => exact ⟨_, (((a0_0.extract ((ji24) : Int).toNat ((wrap64 (a0_1 + 8)) : Int).toNat).toList != ([0, 0, 0, 0, 0, 0, 0] : List UInt8))), (by first | rfl | (simp; done) | (simp only [← hji24] <;> (first | rfl | simp)) | (simp [*]; done)), H', ⟨by first | omega | exact Nat.le_refl _⟩, ⟨by (with_reducible repeat (first | apply zn_ | apply zd_ | apply za_)); exact BK108.out⟩, ⟨by (with_reducible repeat (first | apply zn_ | apply zd_ | apply za_)); exact BK109.out⟩, ⟨by repeat (first | (with_reducible first | exact HB.out | apply pa_ | apply pd_ | apply p1_ | refine zs_ ?_ GE108.out | refine zs_ ?_ GE109.out) | exact HB.out)⟩⟩
                rw [if_neg c27] at H
                exact absurd H (by simp)
              rw [if_neg c26] at H
              exact absurd H (by simp)
            rw [if_neg c25] at H
            exact absurd H (by simp)
          rw [if_neg c23] at H
          have c23b0 : ((bt a0_0 a0_1) == 64) = false := beq_eq_false_iff_ne.mpr c23
          have c23b1 : ((bt a0_0 a0_1) != 64) = true := bne_iff_ne.mpr c23
          have H' := ak_ H
          clear H
          have hnb30 := NB108_109.out
          have hnc30 := NB109_108.out
          have hcz31_0 : w13.cell? ⟨gb108, 0, none⟩ = some (.string a0_0) := (zc_ BK108.out 0).trans rfl
          have hcz31_1 : w13.cell? ⟨gb108, 1, none⟩ = some (.int .i64 a0_1) := (zc_ BK108.out 1).trans rfl
          have hcz31_2 : w13.cell? ⟨gb108, 2, none⟩ = some (.int .i64 a0_2) := (zc_ BK108.out 2).trans rfl
          have hcz31_3 : w13.cell? ⟨gb108, 3, none⟩ = some (.int .i64 a0_3) := (zc_ BK108.out 3).trans rfl
          have hcz31_4 : w13.cell? ⟨gb108, 4, none⟩ = some (.int .i64 a0_4) := (zc_ BK108.out 4).trans rfl
          have hcz31_5 : w13.cell? ⟨gb108, 5, none⟩ = some (.string a0_5) := (zc_ BK108.out 5).trans rfl
          have hcz31_6 : w13.cell? ⟨gb108, 6, none⟩ = some (.bool a0_6) := (zc_ BK108.out 6).trans rfl
          have hfz31_0 := zf_ BK108.out 0
          have hfz31_1 := zf_ BK108.out 1
          have hfz31_2 := zf_ BK108.out 2
          have hfz31_3 := zf_ BK108.out 3
          have hfz31_4 := zf_ BK108.out 4
          have hfz31_5 := zf_ BK108.out 5
          have hfz31_6 := zf_ BK108.out 6
          have p18 : 0 ≤ (a0_1 : Int) := of_decide_eq_true (by assumption)
          have q18 : a0_1 < (a0_0.size : Int) := of_decide_eq_true (by assumption)
          have hx18 := bt_at a0_0 a0_1
          replace p18 := eq_true p18
          replace q18 := eq_true q18
          have p22 : 0 ≤ (a0_1 : Int) := of_decide_eq_true (by assumption)
          have q22 : a0_1 < (a0_0.size : Int) := of_decide_eq_true (by assumption)
          have hx22 := bt_at a0_0 a0_1
          replace p22 := eq_true p22
          replace q22 := eq_true q22
          go_wp2
          go_meet
          case rel => exact ⟨_, (false), (by first | rfl | (simp; done) | (simp [*]; done)), H', ⟨by first | omega | exact Nat.le_refl _⟩, ⟨by (with_reducible repeat (first | apply zn_ | apply zd_ | apply za_)); exact BK108.out⟩, ⟨by (with_reducible repeat (first | apply zn_ | apply zd_ | apply za_)); exact BK109.out⟩, ⟨by repeat (first | (with_reducible first | exact HB.out | apply pa_ | apply pd_ | apply p1_ | refine zs_ ?_ GE108.out | refine zs_ ?_ GE109.out) | exact HB.out)⟩⟩
        rw [if_neg c17] at H
        exact absurd H (by simp)
      rw [if_neg c16] at H
      exact absurd H (by simp)
    case rest =>
      clear HC11
      try clear c1
      try clear p1
      try clear q1
      try clear hx1
      try clear c2
      try clear c2b0
      try clear c2b1
      try clear p2
      try clear q2
      try clear hx2
      try clear c3
      try clear c3b0
      try clear p6
      try clear c7
      try clear c14
      try clear c16
      try clear c16b0
      try clear c17
      try clear c17b0
      try clear p18
      try clear q18
      try clear hx18
      try clear c19
      try clear c19b0
      try clear c20
      try clear p22
      try clear q22
      try clear hx22
      try clear c23
      try clear c23b0
      try clear c23b1
      try clear c25
      try clear c25b0
      try clear c25b1
      try clear c26
      try clear c26b0
      try clear c26b1
      try clear c27
      try clear c27b0
      try clear c27b1
      try clear c28
      try clear c30
      try clear hcz10_0
      try clear hcz10_1
      try clear hcz10_2
      try clear hcz10_3
      try clear hcz10_4
      try clear hcz10_5
      try clear hcz10_6
      try clear hcz15_0
      try clear hcz15_1
      try clear hcz15_2
      try clear hcz15_3
      try clear hcz15_4
      try clear hcz15_5
      try clear hcz15_6
      try clear hcz21_0
      try clear hcz21_1
      try clear hcz21_2
      try clear hcz21_3
      try clear hcz21_4
      try clear hcz21_5
      try clear hcz21_6
      try clear hcz29_0
      try clear hcz29_1
      try clear hcz29_2
      try clear hcz29_3
      try clear hcz29_4
      try clear hcz29_5
      try clear hcz29_6
      try clear hcz31_0
      try clear hcz31_1
      try clear hcz31_2
      try clear hcz31_3
      try clear hcz31_4
      try clear hcz31_5
      try clear hcz31_6
      try clear hcz8_0
      try clear hcz8_1
      try clear hcz8_2
      try clear hcz8_3
      try clear hcz8_4
      try clear hcz8_5
      try clear hcz8_6
      try clear hfz10_0
      try clear hfz10_1
      try clear hfz10_2
      try clear hfz10_3
      try clear hfz10_4
      try clear hfz10_5
      try clear hfz10_6
      try clear hfz15_0
      try clear hfz15_1
      try clear hfz15_2
      try clear hfz15_3
      try clear hfz15_4
      try clear hfz15_5
      try clear hfz15_6
      try clear hfz21_0
      try clear hfz21_1
      try clear hfz21_2
      try clear hfz21_3
      try clear hfz21_4
      try clear hfz21_5
      try clear hfz21_6
      try clear hfz29_0
      try clear hfz29_1
      try clear hfz29_2
      try clear hfz29_3
      try clear hfz29_4
      try clear hfz29_5
      try clear hfz29_6
      try clear hfz31_0
      try clear hfz31_1
      try clear hfz31_2
      try clear hfz31_3
      try clear hfz31_4
      try clear hfz31_5
      try clear hfz31_6
      try clear hfz8_0
      try clear hfz8_1
      try clear hfz8_2
      try clear hfz8_3
      try clear hfz8_4
      try clear hfz8_5
      try clear hfz8_6
      try clear p18
      try clear p22
      try clear q18
      try clear q22
      obtain ⟨kq, x46_10, rfl, HA, HJ10, BK108, BK109, HB⟩ := hcut
      cases kq with
      | zero => exact absurd HA.out (by simp [usufructref04_Take.j0])
      | succ kj10 =>
        have H := HA.out
        clear HA
        simp only [usufructref04_Take.j0] at H
        by_cases c32 : x46_10 = true
        · subst c32
          have H1 : ((usufructref04_fail.f a0_0 a0_1 a0_2 a0_3 a0_4 a0_5 a0_6 a0_1 4).bind fun bt117 => (some (bt117.1, bt117.2.1, bt117.2.2.1, bt117.2.2.2.1, bt117.2.2.2.2.1, bt117.2.2.2.2.2.1, bt117.2.2.2.2.2.2, 0))) = some (r1, r2, r3, r4, r5, r6, r7, r8) := by rw [if_pos rfl] at H; exact H
          clear H
          have H := H1
          clear H1
          replace H := Option.bind_eq_some_iff.mp H
          obtain ⟨⟨t117, t118, t119, t120, t121, t122, t123⟩, A330, H⟩ := H
          replace H : (some (t117, t118, t119, t120, t121, t122, t123, 0)) = some (r1, r2, r3, r4, r5, r6, r7, r8) := H
          have A33 := ak_ A330
          clear A330
          simp only [Option.some.injEq, Prod.mk.injEq] at H
          obtain ⟨rfl, rfl, rfl, rfl, rfl, rfl, rfl, rfl⟩ := H
          have hnb34 := NB108_109.out
          have hnc34 := NB109_108.out
          have hcz35_0 : wc.cell? ⟨gb108, 0, none⟩ = some (.string a0_0) := (zc_ BK108.out 0).trans rfl
          have hcz35_1 : wc.cell? ⟨gb108, 1, none⟩ = some (.int .i64 a0_1) := (zc_ BK108.out 1).trans rfl
          have hcz35_2 : wc.cell? ⟨gb108, 2, none⟩ = some (.int .i64 a0_2) := (zc_ BK108.out 2).trans rfl
          have hcz35_3 : wc.cell? ⟨gb108, 3, none⟩ = some (.int .i64 a0_3) := (zc_ BK108.out 3).trans rfl
          have hcz35_4 : wc.cell? ⟨gb108, 4, none⟩ = some (.int .i64 a0_4) := (zc_ BK108.out 4).trans rfl
          have hcz35_5 : wc.cell? ⟨gb108, 5, none⟩ = some (.string a0_5) := (zc_ BK108.out 5).trans rfl
          have hcz35_6 : wc.cell? ⟨gb108, 6, none⟩ = some (.bool a0_6) := (zc_ BK108.out 6).trans rfl
          have hfz35_0 := zf_ BK108.out 0
          have hfz35_1 := zf_ BK108.out 1
          have hfz35_2 := zf_ BK108.out 2
          have hfz35_3 := zf_ BK108.out 3
          have hfz35_4 := zf_ BK108.out 4
          have hfz35_5 := zf_ BK108.out 5
          have hfz35_6 := zf_ BK108.out 6
          go_wp2_with (first | ((with_reducible refine gate_callee (f := 35) rfl ?_); refine goesL_ (some 50) rfl rfl Try.func35 (by kernel_rfl) rfl #[.agg #[.string a0_0, .int .i64 a0_1, .int .i64 a0_2, .int .i64 a0_3, .int .i64 a0_4, .string a0_5, .bool a0_6], .int .i64 a0_1, .int .i64 4] rfl (by (try simp only [List.map_toArray, List.map_cons, List.map_nil]); first | done | rfl | (simp only [List.length_drop, List.length_take]; rfl)) ?_; (with_reducible refine (usufructref04_fail.calls a0_0 a0_1 a0_2 a0_3 a0_4 a0_5 a0_6 a0_1 4 t117 t118 t119 t120 t121 t122 t123 _ A33.out).mono ?_); rintro e w36 ⟨rfl, hb⟩; refine ⟨_, rfl, ?_⟩; have n0_ := ak_ (blk_below (g := gb108) (o := .cells #[.string a0_0, .int .i64 a0_1, .int .i64 a0_2, .int .i64 a0_3, .int .i64 a0_4, .string a0_5, .bool a0_6] 53 (0, 0)) (by (with_reducible repeat (first | apply zn_ | apply zd_ | apply za_)); exact BK108.out) hb); have n1_ := ak_ (blk_below (g := gb109) (o := .cells #[.string ⟨#[]⟩, .int .i64 0, .int .i64 0, .int .i64 0, .int .i64 0, .string ⟨#[]⟩, .bool false] 53 (0, 0)) (by (with_reducible repeat (first | apply zn_ | apply zd_ | apply za_)); exact BK109.out) hb); have n2_ := ak_ (ps_ (by repeat (first | (with_reducible first | exact HB.out | apply pa_ | apply pd_ | apply p1_ | refine zs_ ?_ GE108.out | refine zs_ ?_ GE109.out) | exact HB.out)) hb); clear BK108; clear BK109; clear HB; have BK108 := n0_; have BK109 := n1_; have HB := n2_; clear n0_ n1_ n2_; (try clear hb hk hi); have hcz37_0 : w36.cell? ⟨gb109, 0, none⟩ = some (.string ⟨#[]⟩) := (zc_ BK109.out 0).trans rfl; have hcz37_1 : w36.cell? ⟨gb109, 1, none⟩ = some (.int .i64 0) := (zc_ BK109.out 1).trans rfl; have hcz37_2 : w36.cell? ⟨gb109, 2, none⟩ = some (.int .i64 0) := (zc_ BK109.out 2).trans rfl; have hcz37_3 : w36.cell? ⟨gb109, 3, none⟩ = some (.int .i64 0) := (zc_ BK109.out 3).trans rfl; have hcz37_4 : w36.cell? ⟨gb109, 4, none⟩ = some (.int .i64 0) := (zc_ BK109.out 4).trans rfl; have hcz37_5 : w36.cell? ⟨gb109, 5, none⟩ = some (.string ⟨#[]⟩) := (zc_ BK109.out 5).trans rfl; have hcz37_6 : w36.cell? ⟨gb109, 6, none⟩ = some (.bool false) := (zc_ BK109.out 6).trans rfl; have hfz37_0 := zf_ BK109.out 0; have hfz37_1 := zf_ BK109.out 1; have hfz37_2 := zf_ BK109.out 2; have hfz37_3 := zf_ BK109.out 3; have hfz37_4 := zf_ BK109.out 4; have hfz37_5 := zf_ BK109.out 5; have hfz37_6 := zf_ BK109.out 6))
          refine bodyPost_ret (results_ct rfl _ _ gb109 53 #[.string t117, .int .i64 t118, .int .i64 t119, .int .i64 t120, .int .i64 t121, .string t122, .bool t123] (0, 0) _ rfl (by (with_reducible repeat (first | apply zn_ | apply zd_ | apply za_)); refine zp_ (cs := #[.string t117, .int .i64 t118, .int .i64 t119, .int .i64 t120, .int .i64 t121, .string t122, .bool false]) ?_ 6 _ rfl; (with_reducible repeat (first | apply zn_ | apply zd_ | apply za_)); refine zp_ (cs := #[.string t117, .int .i64 t118, .int .i64 t119, .int .i64 t120, .int .i64 t121, .string ⟨#[]⟩, .bool false]) ?_ 5 _ rfl; (with_reducible repeat (first | apply zn_ | apply zd_ | apply za_)); refine zp_ (cs := #[.string t117, .int .i64 t118, .int .i64 t119, .int .i64 t120, .int .i64 0, .string ⟨#[]⟩, .bool false]) ?_ 4 _ rfl; (with_reducible repeat (first | apply zn_ | apply zd_ | apply za_)); refine zp_ (cs := #[.string t117, .int .i64 t118, .int .i64 t119, .int .i64 0, .int .i64 0, .string ⟨#[]⟩, .bool false]) ?_ 3 _ rfl; (with_reducible repeat (first | apply zn_ | apply zd_ | apply za_)); refine zp_ (cs := #[.string t117, .int .i64 t118, .int .i64 0, .int .i64 0, .int .i64 0, .string ⟨#[]⟩, .bool false]) ?_ 2 _ rfl; (with_reducible repeat (first | apply zn_ | apply zd_ | apply za_)); refine zp_ (cs := #[.string t117, .int .i64 0, .int .i64 0, .int .i64 0, .int .i64 0, .string ⟨#[]⟩, .bool false]) ?_ 1 _ rfl; (with_reducible repeat (first | apply zn_ | apply zd_ | apply za_)); refine zp_ (cs := #[.string ⟨#[]⟩, .int .i64 0, .int .i64 0, .int .i64 0, .int .i64 0, .string ⟨#[]⟩, .bool false]) ?_ 0 _ rfl; (with_reducible repeat (first | apply zn_ | apply zd_ | apply za_)); exact BK109.out) Try.underlying53 rfl (by kernel_rfl)) rfl ?_
          exact ⟨by first | rfl | (simp [errW_none, errW_some] <;> rfl) | (simp [*, errW_none, errW_some] <;> rfl), by repeat (first | (with_reducible first | exact HB.out | apply pa_ | apply pd_ | apply p1_ | refine zs_ ?_ GE108.out | refine zs_ ?_ GE109.out) | exact HB.out)⟩
        replace c32 := Bool.eq_false_iff.mpr c32
        subst c32
        have H1 : (usufructref04_Take.l0 kj10 0 0 a0_0 a0_1 a0_2 a0_3 a0_4 a0_5 a0_6) = some (r1, r2, r3, r4, r5, r6, r7, r8) := by rw [if_neg (show ¬ (false = true) by decide)] at H; exact H
        clear H
        have H := H1
        clear H1
        have H' := ak_ H
        clear H
        go_wp2
        go_loopg [4, 5] kj10 (fun kq v4 v5 w' => ∃ (x4_2 : Int) (x5_2 : Int), v4 = .int .i64 x4_2 ∧ v5 = .int .i64 x5_2 ∧ Aside0 (usufructref04_Take.l0 kq x4_2 x5_2 a0_0 a0_1 a0_2 a0_3 a0_4 a0_5 a0_6 = some (r1, r2, r3, r4, r5, r6, r7, r8)) ∧ Aside0 (kq ≤ kj10) ∧ Aside0 (w'.heap[gb108]? = some (.cells #[.string a0_0, .int .i64 a0_1, .int .i64 a0_2, .int .i64 a0_3, .int .i64 a0_4, .string a0_5, .bool a0_6] 53 (0, 0))) ∧ Aside0 (w'.heap[gb109]? = some (.cells #[.string ⟨#[]⟩, .int .i64 0, .int .i64 0, .int .i64 0, .int .i64 0, .string ⟨#[]⟩, .bool false] 53 (0, 0))) ∧ Aside0 (Below w.heap.size w w'))
        case atStart => exact ⟨(0), (0), (by first | rfl | (simp; done) | (simp [*]; done)), (by first | rfl | (simp; done) | (simp [*]; done)), H', ⟨Nat.le_refl _⟩, ⟨by (with_reducible repeat (first | apply zn_ | apply zd_ | apply za_)); exact BK108.out⟩, ⟨by (with_reducible repeat (first | apply zn_ | apply zd_ | apply za_)); exact BK109.out⟩, ⟨by repeat (first | (with_reducible first | exact HB.out | apply pa_ | apply pd_ | apply p1_ | refine zs_ ?_ GE108.out | refine zs_ ?_ GE109.out) | exact HB.out)⟩⟩
        case round =>
          clear H'
          try clear c1
          try clear p1
          try clear q1
          try clear hx1
          try clear c2
          try clear c2b0
          try clear c2b1
          try clear p2
          try clear q2
          try clear hx2
          try clear c3
          try clear c3b0
          try clear p6
          try clear c7
          try clear c14
          try clear c16
          try clear c16b0
          try clear c17
          try clear c17b0
          try clear p18
          try clear q18
          try clear hx18
          try clear c19
          try clear c19b0
          try clear c20
          try clear p22
          try clear q22
          try clear hx22
          try clear c23
          try clear c23b0
          try clear c23b1
          try clear c25
          try clear c25b0
          try clear c25b1
          try clear c26
          try clear c26b0
          try clear c26b1
          try clear c27
          try clear c27b0
          try clear c27b1
          try clear c28
          try clear c30
          try clear c32
          try clear c34
          try clear c35
          try clear hcz10_0
          try clear hcz10_1
          try clear hcz10_2
          try clear hcz10_3
          try clear hcz10_4
          try clear hcz10_5
          try clear hcz10_6
          try clear hcz15_0
          try clear hcz15_1
          try clear hcz15_2
          try clear hcz15_3
          try clear hcz15_4
          try clear hcz15_5
          try clear hcz15_6
          try clear hcz21_0
          try clear hcz21_1
          try clear hcz21_2
          try clear hcz21_3
          try clear hcz21_4
          try clear hcz21_5
          try clear hcz21_6
          try clear hcz29_0
          try clear hcz29_1
          try clear hcz29_2
          try clear hcz29_3
          try clear hcz29_4
          try clear hcz29_5
          try clear hcz29_6
          try clear hcz31_0
          try clear hcz31_1
          try clear hcz31_2
          try clear hcz31_3
          try clear hcz31_4
          try clear hcz31_5
          try clear hcz31_6
          try clear hcz35_0
          try clear hcz35_1
          try clear hcz35_2
          try clear hcz35_3
          try clear hcz35_4
          try clear hcz35_5
          try clear hcz35_6
          try clear hcz37_0
          try clear hcz37_1
          try clear hcz37_2
          try clear hcz37_3
          try clear hcz37_4
          try clear hcz37_5
          try clear hcz37_6
          try clear hcz8_0
          try clear hcz8_1
          try clear hcz8_2
          try clear hcz8_3
          try clear hcz8_4
          try clear hcz8_5
          try clear hcz8_6
          try clear hfz10_0
          try clear hfz10_1
          try clear hfz10_2
          try clear hfz10_3
          try clear hfz10_4
          try clear hfz10_5
          try clear hfz10_6
          try clear hfz15_0
          try clear hfz15_1
          try clear hfz15_2
          try clear hfz15_3
          try clear hfz15_4
          try clear hfz15_5
          try clear hfz15_6
          try clear hfz21_0
          try clear hfz21_1
          try clear hfz21_2
          try clear hfz21_3
          try clear hfz21_4
          try clear hfz21_5
          try clear hfz21_6
          try clear hfz29_0
          try clear hfz29_1
          try clear hfz29_2
          try clear hfz29_3
          try clear hfz29_4
          try clear hfz29_5
          try clear hfz29_6
          try clear hfz31_0
          try clear hfz31_1
          try clear hfz31_2
          try clear hfz31_3
          try clear hfz31_4
          try clear hfz31_5
          try clear hfz31_6
          try clear hfz35_0
          try clear hfz35_1
          try clear hfz35_2
          try clear hfz35_3
          try clear hfz35_4
          try clear hfz35_5
          try clear hfz35_6
          try clear hfz37_0
          try clear hfz37_1
          try clear hfz37_2
          try clear hfz37_3
          try clear hfz37_4
          try clear hfz37_5
          try clear hfz37_6
          try clear hfz8_0
          try clear hfz8_1
          try clear hfz8_2
          try clear hfz8_3
          try clear hfz8_4
          try clear hfz8_5
          try clear hfz8_6
          try clear p1
          try clear p18
          try clear p2
          try clear p22
          try clear p6
          try clear q1
          try clear q18
          try clear q2
          try clear q22
          obtain ⟨x4_2, x5_2, rfl, rfl, HA, HK2, BK108, BK109, HB⟩ := hrel
          cases gk with
          | zero => exact absurd HA.out (by simp [usufructref04_Take.l0])
          | succ k2 =>
            have H := HA.out
            clear HA
            simp only [usufructref04_Take.l0] at H
            by_cases c38 : x5_2 < 8
            · rw [if_pos c38] at H
              have c38b0 : decide (x5_2 < 8) = true := decide_eq_true c38
              clear c38
              obtain ⟨ji39, hji39⟩ : ∃ j_ : Int, (wrap64 (a0_1 + x5_2)) = j_ := ⟨_, rfl⟩
              replace H : (if 0 ≤ (ji39) then (if (ji39) < (a0_0.size : Int) then (usufructref04_Take.l0 k2 (wrap64 ((wrap64 (256 * x4_2)) + (wrap64 (bt a0_0 (ji39))))) (wrap64 (x5_2 + 1)) a0_0 a0_1 a0_2 a0_3 a0_4 a0_5 a0_6) else (none)) else (none)) = some (r1, r2, r3, r4, r5, r6, r7, r8) := by first | (rw [hji39] at H; exact H) | (simp only [hji39] at H ⊢; exact H)
              have hji39w : (IntKind.i64.wrap (a0_1 + x5_2)) = ji39 := (i64_w _).trans hji39
              by_cases c40 : 0 ≤ (ji39)
              · rw [if_pos c40] at H
                have c40b0 : decide (0 ≤ (ji39)) = true := decide_eq_true c40
                clear c40
                by_cases c41 : (ji39) < (a0_0.size : Int)
                · rw [if_pos c41] at H
                  have c41b0 : decide ((ji39) < (a0_0.size : Int)) = true := decide_eq_true c41
                  clear c41
                  have H' := ak_ H
                  clear H
                  have hnb43 := NB108_109.out
                  have hnc43 := NB109_108.out
                  have hcz44_0 : wr.cell? ⟨gb108, 0, none⟩ = some (.string a0_0) := (zc_ BK108.out 0).trans rfl
                  have hcz44_1 : wr.cell? ⟨gb108, 1, none⟩ = some (.int .i64 a0_1) := (zc_ BK108.out 1).trans rfl
                  have hcz44_2 : wr.cell? ⟨gb108, 2, none⟩ = some (.int .i64 a0_2) := (zc_ BK108.out 2).trans rfl
                  have hcz44_3 : wr.cell? ⟨gb108, 3, none⟩ = some (.int .i64 a0_3) := (zc_ BK108.out 3).trans rfl
                  have hcz44_4 : wr.cell? ⟨gb108, 4, none⟩ = some (.int .i64 a0_4) := (zc_ BK108.out 4).trans rfl
                  have hcz44_5 : wr.cell? ⟨gb108, 5, none⟩ = some (.string a0_5) := (zc_ BK108.out 5).trans rfl
                  have hcz44_6 : wr.cell? ⟨gb108, 6, none⟩ = some (.bool a0_6) := (zc_ BK108.out 6).trans rfl
                  have hfz44_0 := zf_ BK108.out 0
                  have hfz44_1 := zf_ BK108.out 1
                  have hfz44_2 := zf_ BK108.out 2
                  have hfz44_3 := zf_ BK108.out 3
                  have hfz44_4 := zf_ BK108.out 4
                  have hfz44_5 := zf_ BK108.out 5
                  have hfz44_6 := zf_ BK108.out 6
                  have p42 : 0 ≤ ((ji39) : Int) := of_decide_eq_true (by assumption)
                  have q42 : (ji39) < (a0_0.size : Int) := of_decide_eq_true (by assumption)
                  have hx42 := bt_at a0_0 (ji39)
                  replace p42 := eq_true p42
                  replace q42 := eq_true q42
                  go_wp2
                  go_roundg k2
                  case measure => have := HJ10.out; have := HK2.out; omega
                  case rel => exact ⟨(wrap64 ((wrap64 (256 * x4_2)) + (wrap64 (bt a0_0 (ji39))))), (wrap64 (x5_2 + 1)), (by first | rfl | (simp; done) | (simp only [← hji39] <;> (first | rfl | simp)) | (simp [*]; done)), (by first | rfl | (simp; done) | (simp [*]; done)), H', ⟨by have := HJ10.out; have := HK2.out; omega⟩, ⟨by (with_reducible repeat (first | apply zn_ | apply zd_ | apply za_)); exact BK108.out⟩, ⟨by (with_reducible repeat (first | apply zn_ | apply zd_ | apply za_)); exact BK109.out⟩, ⟨by repeat (first | (with_reducible first | exact HB.out | apply pa_ | apply pd_ | apply p1_ | refine zs_ ?_ GE108.out | refine zs_ ?_ GE109.out) | exact HB.out)⟩⟩
                rw [if_neg c41] at H
                exact absurd H (by simp)
              rw [if_neg c40] at H
              exact absurd H (by simp)
            rw [if_neg c38] at H
            have c38b0 : decide (x5_2 < 8) = false := decide_eq_false c38
            clear c38
            simp only [Option.some.injEq, Prod.mk.injEq] at H
            obtain ⟨rfl, rfl, rfl, rfl, rfl, rfl, rfl, rfl⟩ := H
            have hnb45 := NB108_109.out
            have hnc45 := NB109_108.out
            have hcz46_0 : wr.cell? ⟨gb108, 0, none⟩ = some (.string a0_0) := (zc_ BK108.out 0).trans rfl
            have hcz46_1 : wr.cell? ⟨gb108, 1, none⟩ = some (.int .i64 a0_1) := (zc_ BK108.out 1).trans rfl
            have hcz46_2 : wr.cell? ⟨gb108, 2, none⟩ = some (.int .i64 a0_2) := (zc_ BK108.out 2).trans rfl
            have hcz46_3 : wr.cell? ⟨gb108, 3, none⟩ = some (.int .i64 a0_3) := (zc_ BK108.out 3).trans rfl
            have hcz46_4 : wr.cell? ⟨gb108, 4, none⟩ = some (.int .i64 a0_4) := (zc_ BK108.out 4).trans rfl
            have hcz46_5 : wr.cell? ⟨gb108, 5, none⟩ = some (.string a0_5) := (zc_ BK108.out 5).trans rfl
            have hcz46_6 : wr.cell? ⟨gb108, 6, none⟩ = some (.bool a0_6) := (zc_ BK108.out 6).trans rfl
            have hfz46_0 := zf_ BK108.out 0
            have hfz46_1 := zf_ BK108.out 1
            have hfz46_2 := zf_ BK108.out 2
            have hfz46_3 := zf_ BK108.out 3
            have hfz46_4 := zf_ BK108.out 4
            have hfz46_5 := zf_ BK108.out 5
            have hfz46_6 := zf_ BK108.out 6
            have hcz47_0 : wr.cell? ⟨gb109, 0, none⟩ = some (.string ⟨#[]⟩) := (zc_ BK109.out 0).trans rfl
            have hcz47_1 : wr.cell? ⟨gb109, 1, none⟩ = some (.int .i64 0) := (zc_ BK109.out 1).trans rfl
            have hcz47_2 : wr.cell? ⟨gb109, 2, none⟩ = some (.int .i64 0) := (zc_ BK109.out 2).trans rfl
            have hcz47_3 : wr.cell? ⟨gb109, 3, none⟩ = some (.int .i64 0) := (zc_ BK109.out 3).trans rfl
            have hcz47_4 : wr.cell? ⟨gb109, 4, none⟩ = some (.int .i64 0) := (zc_ BK109.out 4).trans rfl
            have hcz47_5 : wr.cell? ⟨gb109, 5, none⟩ = some (.string ⟨#[]⟩) := (zc_ BK109.out 5).trans rfl
            have hcz47_6 : wr.cell? ⟨gb109, 6, none⟩ = some (.bool false) := (zc_ BK109.out 6).trans rfl
            have hfz47_0 := zf_ BK109.out 0
            have hfz47_1 := zf_ BK109.out 1
            have hfz47_2 := zf_ BK109.out 2
            have hfz47_3 := zf_ BK109.out 3
            have hfz47_4 := zf_ BK109.out 4
            have hfz47_5 := zf_ BK109.out 5
            have hfz47_6 := zf_ BK109.out 6
            go_wp2
            refine bodyPost_ret (results_ct rfl _ _ gb109 53 #[.string a0_0, .int .i64 (wrap64 (a0_1 + 8)), .int .i64 a0_2, .int .i64 a0_3, .int .i64 a0_4, .string a0_5, .bool a0_6] (0, 0) _ rfl (by (with_reducible repeat (first | apply zn_ | apply zd_ | apply za_)); refine zp_ (cs := #[.string a0_0, .int .i64 (wrap64 (a0_1 + 8)), .int .i64 a0_2, .int .i64 a0_3, .int .i64 a0_4, .string a0_5, .bool false]) ?_ 6 _ rfl; (with_reducible repeat (first | apply zn_ | apply zd_ | apply za_)); refine zp_ (cs := #[.string a0_0, .int .i64 (wrap64 (a0_1 + 8)), .int .i64 a0_2, .int .i64 a0_3, .int .i64 a0_4, .string ⟨#[]⟩, .bool false]) ?_ 5 _ rfl; (with_reducible repeat (first | apply zn_ | apply zd_ | apply za_)); refine zp_ (cs := #[.string a0_0, .int .i64 (wrap64 (a0_1 + 8)), .int .i64 a0_2, .int .i64 a0_3, .int .i64 0, .string ⟨#[]⟩, .bool false]) ?_ 4 _ rfl; (with_reducible repeat (first | apply zn_ | apply zd_ | apply za_)); refine zp_ (cs := #[.string a0_0, .int .i64 (wrap64 (a0_1 + 8)), .int .i64 a0_2, .int .i64 0, .int .i64 0, .string ⟨#[]⟩, .bool false]) ?_ 3 _ rfl; (with_reducible repeat (first | apply zn_ | apply zd_ | apply za_)); refine zp_ (cs := #[.string a0_0, .int .i64 (wrap64 (a0_1 + 8)), .int .i64 0, .int .i64 0, .int .i64 0, .string ⟨#[]⟩, .bool false]) ?_ 2 _ rfl; (with_reducible repeat (first | apply zn_ | apply zd_ | apply za_)); refine zp_ (cs := #[.string a0_0, .int .i64 0, .int .i64 0, .int .i64 0, .int .i64 0, .string ⟨#[]⟩, .bool false]) ?_ 1 _ rfl; (with_reducible repeat (first | apply zn_ | apply zd_ | apply za_)); refine zp_ (cs := #[.string ⟨#[]⟩, .int .i64 0, .int .i64 0, .int .i64 0, .int .i64 0, .string ⟨#[]⟩, .bool false]) ?_ 0 _ rfl; (with_reducible repeat (first | apply zn_ | apply zd_ | apply za_)); refine zr_ ?_ NB109_108.out _; (with_reducible repeat (first | apply zn_ | apply zd_ | apply za_)); exact BK109.out) Try.underlying53 rfl (by kernel_rfl)) rfl ?_
            exact ⟨by first | rfl | (simp [errW_none, errW_some] <;> rfl) | (simp [*, errW_none, errW_some] <;> rfl), by repeat (first | (with_reducible first | exact HB.out | apply pa_ | apply pd_ | apply p1_ | refine zs_ ?_ GE108.out | refine zs_ ?_ GE109.out) | exact HB.out)⟩
  rw [if_neg c2] at H
  have c2b0 : (a0_2 == 0) = false := beq_eq_false_iff_ne.mpr c2
  have c2b1 : (a0_2 != 0) = true := bne_iff_ne.mpr c2
  simp only [Option.some.injEq, Prod.mk.injEq] at H
  obtain ⟨rfl, rfl, rfl, rfl, rfl, rfl, rfl, rfl⟩ := H
  go_enter Try.func32, Try.ntmps32
  go_wp2_with (first | ((with_reducible refine gate_dst (N := 1) rfl ?_); refine box_event ?hg (N := 1) ?hd (cs := #[.string a0_0, .int .i64 a0_1, .int .i64 a0_2, .int .i64 a0_3, .int .i64 a0_4, .string a0_5, .bool a0_6]) (t := 53) ?hr ?_; (case hd => rfl); (case hg => rfl); (case hr => first | (go_simp; done) | (go_simp; rfl)); intro gb108 hg w48 hbox hb; have n0_ := ak_ (ps_ (by repeat (first | (with_reducible first | exact HB.out | apply pa_ | apply pd_ | apply p1_) | exact HB.out)) hb); have n1_ := ak_ (hbox); have n2_ := ak_ ((by rw [hg]; exact (below_size (by repeat (first | (with_reducible first | exact HB.out | apply pa_ | apply pd_ | apply p1_) | exact HB.out))) : w.heap.size ≤ gb108)); have n3_ := ak_ ((by rw [hg]; exact (below_size (by repeat (first | (with_reducible first | exact HB.out | apply pa_ | apply pd_ | apply p1_) | exact HB.out))) : w.heap.size ≤ gb108)); clear HB; have HB := n0_; have BK108 := n1_; have GW108 := n2_; have GE108 := n3_; clear n0_ n1_ n2_ n3_; clear hb hbox hg) | ((with_reducible refine gate_dst (N := 2) rfl ?_); refine box_event ?hg (N := 2) ?hd (cs := #[.string ⟨#[]⟩, .int .i64 0, .int .i64 0, .int .i64 0, .int .i64 0, .string ⟨#[]⟩, .bool false]) (t := 53) ?hr ?_; (case hd => rfl); (case hg => rfl); (case hr => first | (go_simp; done) | (go_simp; rfl)); intro gb109 hg w49 hbox hb; have n0_ := ak_ (blk_below (g := gb108) (o := .cells #[.string a0_0, .int .i64 a0_1, .int .i64 a0_2, .int .i64 a0_3, .int .i64 a0_4, .string a0_5, .bool a0_6] 53 (0, 0)) (by (with_reducible repeat (first | apply zn_ | apply zd_ | apply za_)); exact BK108.out) hb); have n1_ := ak_ (ps_ (by repeat (first | (with_reducible first | exact HB.out | apply pa_ | apply pd_ | apply p1_ | refine zs_ ?_ GE108.out) | exact HB.out)) hb); have n2_ := ak_ (hbox); have n3_ := ak_ ((by rw [hg]; exact (below_size (by repeat (first | (with_reducible first | exact HB.out | apply pa_ | apply pd_ | apply p1_ | refine zs_ ?_ GE108.out) | exact HB.out))) : w.heap.size ≤ gb109)); have n4_ := ak_ ((by rw [hg]; exact (below_size (by repeat (first | (with_reducible first | exact HB.out | apply pa_ | apply pd_ | apply p1_ | refine zs_ ?_ GE108.out) | exact HB.out))) : w.heap.size ≤ gb109)); have n5_ := ak_ ((by rw [hg]; exact Nat.ne_of_lt (blk_lt (g := gb108) (o := .cells #[.string a0_0, .int .i64 a0_1, .int .i64 a0_2, .int .i64 a0_3, .int .i64 a0_4, .string a0_5, .bool a0_6] 53 (0, 0)) (by (with_reducible repeat (first | apply zn_ | apply zd_ | apply za_)); exact BK108.out)) : gb108 ≠ gb109)); have n6_ := ak_ ((by rw [hg]; exact Nat.ne_of_gt (blk_lt (g := gb108) (o := .cells #[.string a0_0, .int .i64 a0_1, .int .i64 a0_2, .int .i64 a0_3, .int .i64 a0_4, .string a0_5, .bool a0_6] 53 (0, 0)) (by (with_reducible repeat (first | apply zn_ | apply zd_ | apply za_)); exact BK108.out)) : gb109 ≠ gb108)); clear BK108; clear HB; have BK108 := n0_; have HB := n1_; have BK109 := n2_; have GW109 := n3_; have GE109 := n4_; have NB108_109 := n5_; have NB109_108 := n6_; clear n0_ n1_ n2_ n3_ n4_ n5_ n6_; clear hb hbox hg; have hnb50 := NB108_109.out; have hnc50 := NB109_108.out; have hcz51_0 : w49.cell? ⟨gb108, 0, none⟩ = some (.string a0_0) := (zc_ BK108.out 0).trans rfl; have hcz51_1 : w49.cell? ⟨gb108, 1, none⟩ = some (.int .i64 a0_1) := (zc_ BK108.out 1).trans rfl; have hcz51_2 : w49.cell? ⟨gb108, 2, none⟩ = some (.int .i64 a0_2) := (zc_ BK108.out 2).trans rfl; have hcz51_3 : w49.cell? ⟨gb108, 3, none⟩ = some (.int .i64 a0_3) := (zc_ BK108.out 3).trans rfl; have hcz51_4 : w49.cell? ⟨gb108, 4, none⟩ = some (.int .i64 a0_4) := (zc_ BK108.out 4).trans rfl; have hcz51_5 : w49.cell? ⟨gb108, 5, none⟩ = some (.string a0_5) := (zc_ BK108.out 5).trans rfl; have hcz51_6 : w49.cell? ⟨gb108, 6, none⟩ = some (.bool a0_6) := (zc_ BK108.out 6).trans rfl; have hfz51_0 := zf_ BK108.out 0; have hfz51_1 := zf_ BK108.out 1; have hfz51_2 := zf_ BK108.out 2; have hfz51_3 := zf_ BK108.out 3; have hfz51_4 := zf_ BK108.out 4; have hfz51_5 := zf_ BK108.out 5; have hfz51_6 := zf_ BK108.out 6; have hcz52_0 : w49.cell? ⟨gb109, 0, none⟩ = some (.string ⟨#[]⟩) := (zc_ BK109.out 0).trans rfl; have hcz52_1 : w49.cell? ⟨gb109, 1, none⟩ = some (.int .i64 0) := (zc_ BK109.out 1).trans rfl; have hcz52_2 : w49.cell? ⟨gb109, 2, none⟩ = some (.int .i64 0) := (zc_ BK109.out 2).trans rfl; have hcz52_3 : w49.cell? ⟨gb109, 3, none⟩ = some (.int .i64 0) := (zc_ BK109.out 3).trans rfl; have hcz52_4 : w49.cell? ⟨gb109, 4, none⟩ = some (.int .i64 0) := (zc_ BK109.out 4).trans rfl; have hcz52_5 : w49.cell? ⟨gb109, 5, none⟩ = some (.string ⟨#[]⟩) := (zc_ BK109.out 5).trans rfl; have hcz52_6 : w49.cell? ⟨gb109, 6, none⟩ = some (.bool false) := (zc_ BK109.out 6).trans rfl; have hfz52_0 := zf_ BK109.out 0; have hfz52_1 := zf_ BK109.out 1; have hfz52_2 := zf_ BK109.out 2; have hfz52_3 := zf_ BK109.out 3; have hfz52_4 := zf_ BK109.out 4; have hfz52_5 := zf_ BK109.out 5; have hfz52_6 := zf_ BK109.out 6))
  refine bodyPost_ret (results_ct rfl _ _ gb109 53 #[.string a0_0, .int .i64 a0_1, .int .i64 a0_2, .int .i64 a0_3, .int .i64 a0_4, .string a0_5, .bool a0_6] (0, 0) _ rfl (by (with_reducible repeat (first | apply zn_ | apply zd_ | apply za_)); refine zp_ (cs := #[.string a0_0, .int .i64 a0_1, .int .i64 a0_2, .int .i64 a0_3, .int .i64 a0_4, .string a0_5, .bool false]) ?_ 6 _ rfl; (with_reducible repeat (first | apply zn_ | apply zd_ | apply za_)); refine zp_ (cs := #[.string a0_0, .int .i64 a0_1, .int .i64 a0_2, .int .i64 a0_3, .int .i64 a0_4, .string ⟨#[]⟩, .bool false]) ?_ 5 _ rfl; (with_reducible repeat (first | apply zn_ | apply zd_ | apply za_)); refine zp_ (cs := #[.string a0_0, .int .i64 a0_1, .int .i64 a0_2, .int .i64 a0_3, .int .i64 0, .string ⟨#[]⟩, .bool false]) ?_ 4 _ rfl; (with_reducible repeat (first | apply zn_ | apply zd_ | apply za_)); refine zp_ (cs := #[.string a0_0, .int .i64 a0_1, .int .i64 a0_2, .int .i64 0, .int .i64 0, .string ⟨#[]⟩, .bool false]) ?_ 3 _ rfl; (with_reducible repeat (first | apply zn_ | apply zd_ | apply za_)); refine zp_ (cs := #[.string a0_0, .int .i64 a0_1, .int .i64 0, .int .i64 0, .int .i64 0, .string ⟨#[]⟩, .bool false]) ?_ 2 _ rfl; (with_reducible repeat (first | apply zn_ | apply zd_ | apply za_)); refine zp_ (cs := #[.string a0_0, .int .i64 0, .int .i64 0, .int .i64 0, .int .i64 0, .string ⟨#[]⟩, .bool false]) ?_ 1 _ rfl; (with_reducible repeat (first | apply zn_ | apply zd_ | apply za_)); refine zp_ (cs := #[.string ⟨#[]⟩, .int .i64 0, .int .i64 0, .int .i64 0, .int .i64 0, .string ⟨#[]⟩, .bool false]) ?_ 0 _ rfl; (with_reducible repeat (first | apply zn_ | apply zd_ | apply za_)); exact BK109.out) Try.underlying53 rfl (by kernel_rfl)) rfl ?_
  exact ⟨by first | rfl | (simp [errW_none, errW_some] <;> rfl) | (simp [*, errW_none, errW_some] <;> rfl), by repeat (first | (with_reducible first | exact HB.out | apply pa_ | apply pd_ | apply p1_ | refine zs_ ?_ GE108.out | refine zs_ ?_ GE109.out) | exact HB.out)⟩

end Go.Proofs.Ytcgpbakimkhdpaa.Q
