-- written for this claim by a program of the session
import Derived.Test.YtcgpbakimkhdpaaQx0
import Derived.Test.YtcgpbakimkhdpaaQx5
namespace Go.Proofs.Ytcgpbakimkhdpaa.Q
open Go.RowKit Go.Proofs.YtcgpbakimkhdpaaW.PrintWords Go.Proofs.YtcgpbakimkhdpaaW.PrintLast Go.Proofs.YtcgpbakimkhdpaaW.PrintMore
attribute [local go_sem] max2_int min2_int max_two min_two max_three min_three max_four min_four   -- for this text's walks alone
set_option linter.unusedVariables false
set_option linter.unusedSimpArgs false

/-! ### usufructref04_TakeN: function 20 -/
def usufructref04_TakeN.f (k : Nat) (a0_0 : ByteArray) (a0_1 : Int) (a0_2 : Int) (a0_3 : Int) (a0_4 : Int) (a0_5 : ByteArray) (a0_6 : Bool) : Option (ByteArray × Int × Int × Int × Int × ByteArray × Bool) := (usufructref04_Take.f k a0_0 a0_1 a0_2 a0_3 a0_4 a0_5 a0_6).bind fun bt126 => (some (bt126.1, bt126.2.1, bt126.2.2.1, bt126.2.2.2.1, bt126.2.2.2.2.2.2.2, bt126.2.2.2.2.2.1, bt126.2.2.2.2.2.2.1))
theorem usufructref04_TakeN.mono : ∀ a0 a1 a2 a3 a4 a5 a6 k, LeO (usufructref04_TakeN.f k a0 a1 a2 a3 a4 a5 a6) (usufructref04_TakeN.f (k + 1) a0 a1 a2 a3 a4 a5 a6) := by
  intro a0 a1 a2 a3 a4 a5 a6 k
  unfold usufructref04_TakeN.f
  repeat' first
      | (with_reducible exact usufructref04_Take.mono _ _ _ _ _ _ _ _)
      | (with_reducible exact LeO.refl _)
      | (with_reducible exact LeO.none _)
      | (with_reducible refine LeO.ite ?_ ?_)
      | (with_reducible refine LeO.bind ?_ (fun _ => ?_))
      | exact usufructref04_Take.mono _ _ _ _ _ _ _ _
      | exact LeO.none _
      | refine LeO.ite ?_ ?_
      | refine LeO.bind ?_ (fun _ => ?_)
namespace usufructref04_TakeN
theorem mt_ {α β : Type} {f : α → β} {l : List α} : l.toArray.map f = (l.map f).toArray := List.map_toArray
theorem mc_ {α β : Type} {f : α → β} {a : α} {l : List α} : (a :: l).map f = f a :: l.map f := rfl
theorem mn_ {α β : Type} {f : α → β} : ([] : List α).map f = [] := rfl
abbrev zn_ := @blk_drewN
abbrev zd_ := @blk_drew
abbrev za_ := @blk_alloc
abbrev zf_ := @blk_frozen
abbrev zc_ := @blk_cell
abbrev zs_ := @below_set
abbrev zr_ := @blk_far
abbrev zp_ := @blk_put
abbrev pd_ := @pw_below_drewN
abbrev p1_ := @below_drew1
abbrev pa_ := @below_alloc
abbrev ak_ := @Aside0.mk
abbrev bl_ := @World.block_lt_of_cell?
abbrev ps_ := @below_step
def b_ (n k : Nat) : Array Bool := ((List.range n).map fun i => k.testBit i).toArray
theorem sa_ {α : Type} {l : List α} {i : Nat} {a : α} : l.toArray.setIfInBounds i a = (l.set i a).toArray := List.setIfInBounds_toArray l i a
theorem sz_ {α : Type} {a b : α} {l : List α} : (a :: l).set 0 b = b :: l := rfl
theorem ss_ {α : Type} {a b : α} {l : List α} {n : Nat} : (a :: l).set (n + 1) b = a :: l.set n b := rfl
end usufructref04_TakeN
open usufructref04_TakeN in
set_option maxHeartbeats 8000000 in
set_option maxRecDepth 100000 in
theorem usufructref04_TakeN.calls (k : Nat) (a0_0 : ByteArray) (a0_1 : Int) (a0_2 : Int) (a0_3 : Int) (a0_4 : Int) (a0_5 : ByteArray) (a0_6 : Bool) (r1 : ByteArray) (r2 : Int) (r3 : Int) (r4 : Int) (r5 : Int) (r6 : ByteArray) (r7 : Bool) (w : World) (h : usufructref04_TakeN.f k a0_0 a0_1 a0_2 a0_3 a0_4 a0_5 a0_6 = some (r1, r2, r3, r4, r5, r6, r7)) :
    Calls Try.prog 20 #[.agg #[.string a0_0, .int .i64 a0_1, .int .i64 a0_2, .int .i64 a0_3, .int .i64 a0_4, .string a0_5, .bool a0_6]] w fun e w' => e = .returned (.agg #[.string r1, .int .i64 r2, .int .i64 r3, .int .i64 r4, .int .i64 r5, .string r6, .bool r7]) ∧ Below w.heap.size w w' := by
  have hu53 := Try.underlying53
  have HB := ak_ (Below.refl w.heap.size w)
  have H : ((usufructref04_Take.f k a0_0 a0_1 a0_2 a0_3 a0_4 a0_5 a0_6).bind fun bt126 => (some (bt126.1, bt126.2.1, bt126.2.2.1, bt126.2.2.2.1, bt126.2.2.2.2.2.2.2, bt126.2.2.2.2.2.1, bt126.2.2.2.2.2.2.1))) = some (r1, r2, r3, r4, r5, r6, r7) := h
  clear h
  replace H := Option.bind_eq_some_iff.mp H
  obtain ⟨⟨t126, t127, t128, t129, t130, t131, t132, t133⟩, A20, H⟩ := H
  replace H : (some (t126, t127, t128, t129, t133, t131, t132)) = some (r1, r2, r3, r4, r5, r6, r7) := H
  have A2 := ak_ A20
  clear A20
  simp only [Option.some.injEq, Prod.mk.injEq] at H
  obtain ⟨rfl, rfl, rfl, rfl, rfl, rfl, rfl⟩ := H
  go_enter Try.func20, Try.ntmps20
  go_upto_region 2 with (first | ((with_reducible refine gate_dst (N := 1) rfl ?_); refine box_event ?hg (N := 1) ?hd (cs := #[.string a0_0, .int .i64 a0_1, .int .i64 a0_2, .int .i64 a0_3, .int .i64 a0_4, .string a0_5, .bool a0_6]) (t := 53) ?hr ?_; (case hd => rfl); (case hg => rfl); (case hr => first | (go_simp; done) | (go_simp; rfl)); intro gb124 hg w3 hbox hb; have n0_ := ak_ (ps_ (by repeat (first | (with_reducible first | exact HB.out | apply pa_ | apply pd_ | apply p1_) | exact HB.out)) hb); have n1_ := ak_ (hbox); have n2_ := ak_ ((by rw [hg]; exact (below_size (by repeat (first | (with_reducible first | exact HB.out | apply pa_ | apply pd_ | apply p1_) | exact HB.out))) : w.heap.size ≤ gb124)); have n3_ := ak_ ((by rw [hg]; exact (below_size (by repeat (first | (with_reducible first | exact HB.out | apply pa_ | apply pd_ | apply p1_) | exact HB.out))) : w.heap.size ≤ gb124)); clear HB; have HB := n0_; have BK124 := n1_; have GW124 := n2_; have GE124 := n3_; clear n0_ n1_ n2_ n3_; clear hb hbox hg) | ((with_reducible refine gate_dst (N := 2) rfl ?_); refine box_event ?hg (N := 2) ?hd (cs := #[.string ⟨#[]⟩, .int .i64 0, .int .i64 0, .int .i64 0, .int .i64 0, .string ⟨#[]⟩, .bool false]) (t := 53) ?hr ?_; (case hd => rfl); (case hg => rfl); (case hr => first | (go_simp; done) | (go_simp; rfl)); intro gb125 hg w4 hbox hb; have n0_ := ak_ (blk_below (g := gb124) (o := .cells #[.string a0_0, .int .i64 a0_1, .int .i64 a0_2, .int .i64 a0_3, .int .i64 a0_4, .string a0_5, .bool a0_6] 53 (0, 0)) (by (with_reducible repeat (first | apply zn_ | apply zd_ | apply za_)); exact BK124.out) hb); have n1_ := ak_ (ps_ (by repeat (first | (with_reducible first | exact HB.out | apply pa_ | apply pd_ | apply p1_ | refine zs_ ?_ GE124.out) | exact HB.out)) hb); have n2_ := ak_ (hbox); have n3_ := ak_ ((by rw [hg]; exact (below_size (by repeat (first | (with_reducible first | exact HB.out | apply pa_ | apply pd_ | apply p1_ | refine zs_ ?_ GE124.out) | exact HB.out))) : w.heap.size ≤ gb125)); have n4_ := ak_ ((by rw [hg]; exact (below_size (by repeat (first | (with_reducible first | exact HB.out | apply pa_ | apply pd_ | apply p1_ | refine zs_ ?_ GE124.out) | exact HB.out))) : w.heap.size ≤ gb125)); have n5_ := ak_ ((by rw [hg]; exact Nat.ne_of_lt (blk_lt (g := gb124) (o := .cells #[.string a0_0, .int .i64 a0_1, .int .i64 a0_2, .int .i64 a0_3, .int .i64 a0_4, .string a0_5, .bool a0_6] 53 (0, 0)) (by (with_reducible repeat (first | apply zn_ | apply zd_ | apply za_)); exact BK124.out)) : gb124 ≠ gb125)); have n6_ := ak_ ((by rw [hg]; exact Nat.ne_of_gt (blk_lt (g := gb124) (o := .cells #[.string a0_0, .int .i64 a0_1, .int .i64 a0_2, .int .i64 a0_3, .int .i64 a0_4, .string a0_5, .bool a0_6] 53 (0, 0)) (by (with_reducible repeat (first | apply zn_ | apply zd_ | apply za_)); exact BK124.out)) : gb125 ≠ gb124)); clear BK124; clear HB; have BK124 := n0_; have HB := n1_; have BK125 := n2_; have GW125 := n3_; have GE125 := n4_; have NB124_125 := n5_; have NB125_124 := n6_; clear n0_ n1_ n2_ n3_ n4_ n5_ n6_; clear hb hbox hg; have hnb5 := NB124_125.out; have hnc5 := NB125_124.out; have hcz6_0 : w4.cell? ⟨gb124, 0, none⟩ = some (.string a0_0) := (zc_ BK124.out 0).trans rfl; have hcz6_1 : w4.cell? ⟨gb124, 1, none⟩ = some (.int .i64 a0_1) := (zc_ BK124.out 1).trans rfl; have hcz6_2 : w4.cell? ⟨gb124, 2, none⟩ = some (.int .i64 a0_2) := (zc_ BK124.out 2).trans rfl; have hcz6_3 : w4.cell? ⟨gb124, 3, none⟩ = some (.int .i64 a0_3) := (zc_ BK124.out 3).trans rfl; have hcz6_4 : w4.cell? ⟨gb124, 4, none⟩ = some (.int .i64 a0_4) := (zc_ BK124.out 4).trans rfl; have hcz6_5 : w4.cell? ⟨gb124, 5, none⟩ = some (.string a0_5) := (zc_ BK124.out 5).trans rfl; have hcz6_6 : w4.cell? ⟨gb124, 6, none⟩ = some (.bool a0_6) := (zc_ BK124.out 6).trans rfl; have hfz6_0 := zf_ BK124.out 0; have hfz6_1 := zf_ BK124.out 1; have hfz6_2 := zf_ BK124.out 2; have hfz6_3 := zf_ BK124.out 3; have hfz6_4 := zf_ BK124.out 4; have hfz6_5 := zf_ BK124.out 5; have hfz6_6 := zf_ BK124.out 6) | ((with_reducible refine gate_callee (f := 32) rfl ?_); refine goesL_ (some 7) rfl rfl Try.func32 (by kernel_rfl) rfl #[.agg #[.string a0_0, .int .i64 a0_1, .int .i64 a0_2, .int .i64 a0_3, .int .i64 a0_4, .string a0_5, .bool a0_6]] rfl (by (try simp only [List.map_toArray, List.map_cons, List.map_nil]); first | done | rfl | (simp only [List.length_drop, List.length_take]; rfl)) ?_; (with_reducible refine (usufructref04_Take.calls k a0_0 a0_1 a0_2 a0_3 a0_4 a0_5 a0_6 t126 t127 t128 t129 t130 t131 t132 t133 _ A2.out).mono ?_); rintro e w7 ⟨rfl, hb⟩; refine ⟨_, rfl, ?_⟩; have n0_ := ak_ (blk_below (g := gb124) (o := .cells #[.string a0_0, .int .i64 a0_1, .int .i64 a0_2, .int .i64 a0_3, .int .i64 a0_4, .string a0_5, .bool a0_6] 53 (0, 0)) (by (with_reducible repeat (first | apply zn_ | apply zd_ | apply za_)); exact BK124.out) hb); have n1_ := ak_ (blk_below (g := gb125) (o := .cells #[.string ⟨#[]⟩, .int .i64 0, .int .i64 0, .int .i64 0, .int .i64 0, .string ⟨#[]⟩, .bool false] 53 (0, 0)) (by (with_reducible repeat (first | apply zn_ | apply zd_ | apply za_)); exact BK125.out) hb); have n2_ := ak_ (ps_ (by repeat (first | (with_reducible first | exact HB.out | apply pa_ | apply pd_ | apply p1_ | refine zs_ ?_ GE124.out | refine zs_ ?_ GE125.out) | exact HB.out)) hb); clear BK124; clear BK125; clear HB; have BK124 := n0_; have BK125 := n1_; have HB := n2_; clear n0_ n1_ n2_; (try clear hb hk hi)) | ((with_reducible refine gate_dst (N := 3) rfl ?_); refine box_event ?hg (N := 3) ?hd (cs := #[.string ⟨#[]⟩, .int .i64 0, .int .i64 0, .int .i64 0, .int .i64 0, .string ⟨#[]⟩, .bool false]) (t := 53) ?hr ?_; (case hd => rfl); (case hg => rfl); (case hr => first | (go_simp; done) | (go_simp; rfl)); intro gb134 hg w8 hbox hb; have n0_ := ak_ (blk_below (g := gb124) (o := .cells #[.string a0_0, .int .i64 a0_1, .int .i64 a0_2, .int .i64 a0_3, .int .i64 a0_4, .string a0_5, .bool a0_6] 53 (0, 0)) (by (with_reducible repeat (first | apply zn_ | apply zd_ | apply za_)); exact BK124.out) hb); have n1_ := ak_ (blk_below (g := gb125) (o := .cells #[.string ⟨#[]⟩, .int .i64 0, .int .i64 0, .int .i64 0, .int .i64 0, .string ⟨#[]⟩, .bool false] 53 (0, 0)) (by (with_reducible repeat (first | apply zn_ | apply zd_ | apply za_)); exact BK125.out) hb); have n2_ := ak_ (ps_ (by repeat (first | (with_reducible first | exact HB.out | apply pa_ | apply pd_ | apply p1_ | refine zs_ ?_ GE124.out | refine zs_ ?_ GE125.out) | exact HB.out)) hb); have n3_ := ak_ (hbox); have n4_ := ak_ ((by rw [hg]; exact (below_size (by repeat (first | (with_reducible first | exact HB.out | apply pa_ | apply pd_ | apply p1_ | refine zs_ ?_ GE124.out | refine zs_ ?_ GE125.out) | exact HB.out))) : w.heap.size ≤ gb134)); have n5_ := ak_ ((by rw [hg]; exact (below_size (by repeat (first | (with_reducible first | exact HB.out | apply pa_ | apply pd_ | apply p1_ | refine zs_ ?_ GE124.out | refine zs_ ?_ GE125.out) | exact HB.out))) : w.heap.size ≤ gb134)); have n6_ := ak_ ((by rw [hg]; exact Nat.ne_of_lt (blk_lt (g := gb124) (o := .cells #[.string a0_0, .int .i64 a0_1, .int .i64 a0_2, .int .i64 a0_3, .int .i64 a0_4, .string a0_5, .bool a0_6] 53 (0, 0)) (by (with_reducible repeat (first | apply zn_ | apply zd_ | apply za_)); exact BK124.out)) : gb124 ≠ gb134)); have n7_ := ak_ ((by rw [hg]; exact Nat.ne_of_gt (blk_lt (g := gb124) (o := .cells #[.string a0_0, .int .i64 a0_1, .int .i64 a0_2, .int .i64 a0_3, .int .i64 a0_4, .string a0_5, .bool a0_6] 53 (0, 0)) (by (with_reducible repeat (first | apply zn_ | apply zd_ | apply za_)); exact BK124.out)) : gb134 ≠ gb124)); have n8_ := ak_ ((by rw [hg]; exact Nat.ne_of_lt (blk_lt (g := gb125) (o := .cells #[.string ⟨#[]⟩, .int .i64 0, .int .i64 0, .int .i64 0, .int .i64 0, .string ⟨#[]⟩, .bool false] 53 (0, 0)) (by (with_reducible repeat (first | apply zn_ | apply zd_ | apply za_)); exact BK125.out)) : gb125 ≠ gb134)); have n9_ := ak_ ((by rw [hg]; exact Nat.ne_of_gt (blk_lt (g := gb125) (o := .cells #[.string ⟨#[]⟩, .int .i64 0, .int .i64 0, .int .i64 0, .int .i64 0, .string ⟨#[]⟩, .bool false] 53 (0, 0)) (by (with_reducible repeat (first | apply zn_ | apply zd_ | apply za_)); exact BK125.out)) : gb134 ≠ gb125)); clear BK124; clear BK125; clear HB; have BK124 := n0_; have BK125 := n1_; have HB := n2_; have BK134 := n3_; have GW134 := n4_; have GE134 := n5_; have NB124_134 := n6_; have NB134_124 := n7_; have NB125_134 := n8_; have NB134_125 := n9_; clear n0_ n1_ n2_ n3_ n4_ n5_ n6_ n7_ n8_ n9_; clear hb hbox hg; have hnb9 := NB134_124.out; have hnc9 := NB124_134.out; have hnb10 := NB134_125.out; have hnc10 := NB125_134.out; have hcz11_0 : w8.cell? ⟨gb134, 0, none⟩ = some (.string ⟨#[]⟩) := (zc_ BK134.out 0).trans rfl; have hcz11_1 : w8.cell? ⟨gb134, 1, none⟩ = some (.int .i64 0) := (zc_ BK134.out 1).trans rfl; have hcz11_2 : w8.cell? ⟨gb134, 2, none⟩ = some (.int .i64 0) := (zc_ BK134.out 2).trans rfl; have hcz11_3 : w8.cell? ⟨gb134, 3, none⟩ = some (.int .i64 0) := (zc_ BK134.out 3).trans rfl; have hcz11_4 : w8.cell? ⟨gb134, 4, none⟩ = some (.int .i64 0) := (zc_ BK134.out 4).trans rfl; have hcz11_5 : w8.cell? ⟨gb134, 5, none⟩ = some (.string ⟨#[]⟩) := (zc_ BK134.out 5).trans rfl; have hcz11_6 : w8.cell? ⟨gb134, 6, none⟩ = some (.bool false) := (zc_ BK134.out 6).trans rfl; have hfz11_0 := zf_ BK134.out 0; have hfz11_1 := zf_ BK134.out 1; have hfz11_2 := zf_ BK134.out 2; have hfz11_3 := zf_ BK134.out 3; have hfz11_4 := zf_ BK134.out 4; have hfz11_5 := zf_ BK134.out 5; have hfz11_6 := zf_ BK134.out 6; have hcz12_0 : w8.cell? ⟨gb125, 0, none⟩ = some (.string ⟨#[]⟩) := (zc_ BK125.out 0).trans rfl; have hcz12_1 : w8.cell? ⟨gb125, 1, none⟩ = some (.int .i64 0) := (zc_ BK125.out 1).trans rfl; have hcz12_2 : w8.cell? ⟨gb125, 2, none⟩ = some (.int .i64 0) := (zc_ BK125.out 2).trans rfl; have hcz12_3 : w8.cell? ⟨gb125, 3, none⟩ = some (.int .i64 0) := (zc_ BK125.out 3).trans rfl; have hcz12_4 : w8.cell? ⟨gb125, 4, none⟩ = some (.int .i64 0) := (zc_ BK125.out 4).trans rfl; have hcz12_5 : w8.cell? ⟨gb125, 5, none⟩ = some (.string ⟨#[]⟩) := (zc_ BK125.out 5).trans rfl; have hcz12_6 : w8.cell? ⟨gb125, 6, none⟩ = some (.bool false) := (zc_ BK125.out 6).trans rfl; have hfz12_0 := zf_ BK125.out 0; have hfz12_1 := zf_ BK125.out 1; have hfz12_2 := zf_ BK125.out 2; have hfz12_3 := zf_ BK125.out 3; have hfz12_4 := zf_ BK125.out 4; have hfz12_5 := zf_ BK125.out 5; have hfz12_6 := zf_ BK125.out 6))
  have KK1 := (zp_ (zp_ (zp_ (zp_ (zp_ (zp_ (zp_ BK134.out 0 (.string t126) rfl) 1 (.int .i64 t127) rfl) 2 (.int .i64 t128) rfl) 3 (.int .i64 t129) rfl) 4 (.int .i64 t130) rfl) 5 (.string t131) rfl) 6 (.bool t132) rfl)
  have KK2 := (zr_ (p := ⟨gb134, 6, none⟩) (zr_ (p := ⟨gb134, 5, none⟩) (zr_ (p := ⟨gb134, 4, none⟩) (zr_ (p := ⟨gb134, 3, none⟩) (zr_ (p := ⟨gb134, 2, none⟩) (zr_ (p := ⟨gb134, 1, none⟩) (zr_ (p := ⟨gb134, 0, none⟩) BK125.out NB125_134.out (.string t126)) NB125_134.out (.int .i64 t127)) NB125_134.out (.int .i64 t128)) NB125_134.out (.int .i64 t129)) NB125_134.out (.int .i64 t130)) NB125_134.out (.string t131)) NB125_134.out (.bool t132))
  have HBW := (zs_ (g := gb134) (j := 6) (v := .bool t132) (zs_ (g := gb134) (j := 5) (v := .string t131) (zs_ (g := gb134) (j := 4) (v := .int .i64 t130) (zs_ (g := gb134) (j := 3) (v := .int .i64 t129) (zs_ (g := gb134) (j := 2) (v := .int .i64 t128) (zs_ (g := gb134) (j := 1) (v := .int .i64 t127) (zs_ (g := gb134) (j := 0) (v := .string t126) HB.out GE134.out) GE134.out) GE134.out) GE134.out) GE134.out) GE134.out) GE134.out)
  generalize (((((((w8.setCell ⟨gb134, 0, none⟩ (.string t126)).setCell ⟨gb134, 1, none⟩ (.int .i64 t127)).setCell ⟨gb134, 2, none⟩ (.int .i64 t128)).setCell ⟨gb134, 3, none⟩ (.int .i64 t129)).setCell ⟨gb134, 4, none⟩ (.int .i64 t130)).setCell ⟨gb134, 5, none⟩ (.string t131)).setCell ⟨gb134, 6, none⟩ (.bool t132)) = W_ at *
  have hz0 := zc_ KK1 0
  have hz1 := zc_ KK1 1
  have hz2 := zc_ KK1 2
  have hz3 := zc_ KK1 3
  have hz4 := zc_ KK1 4
  have hz5 := zc_ KK1 5
  have hz6 := zc_ KK1 6
  have hf0 := zf_ KK1 0
  have hf1 := zf_ KK1 1
  have hf2 := zf_ KK1 2
  have hf3 := zf_ KK1 3
  have hf4 := zf_ KK1 4
  have hf5 := zf_ KK1 5
  have hf6 := zf_ KK1 6
  have gz0 := zc_ KK2 0
  have gz1 := zc_ KK2 1
  have gz2 := zc_ KK2 2
  have gz3 := zc_ KK2 3
  have gz4 := zc_ KK2 4
  have gz5 := zc_ KK2 5
  have gz6 := zc_ KK2 6
  have gf0 := zf_ KK2 0
  have gf1 := zf_ KK2 1
  have gf2 := zf_ KK2 2
  have gf3 := zf_ KK2 3
  have gf4 := zf_ KK2 4
  have gf5 := zf_ KK2 5
  have gf6 := zf_ KK2 6
  go_wp2
  refine bodyPost_ret (results_cell_row rfl _ _ gb125 53 #[.string t126, .int .i64 t127, .int .i64 t128, .int .i64 t129, .int .i64 t133, .string t131, .bool t132] (0, 0) _ rfl (by (with_reducible repeat (first | apply zn_ | apply zd_ | apply za_)); refine zp_ (cs := #[.string t126, .int .i64 t127, .int .i64 t128, .int .i64 t129, .int .i64 t133, .string t131, .bool false]) ?_ 6 _ rfl; (with_reducible repeat (first | apply zn_ | apply zd_ | apply za_)); refine zp_ (cs := #[.string t126, .int .i64 t127, .int .i64 t128, .int .i64 t129, .int .i64 t133, .string ⟨#[]⟩, .bool false]) ?_ 5 _ rfl; (with_reducible repeat (first | apply zn_ | apply zd_ | apply za_)); refine zp_ (cs := #[.string t126, .int .i64 t127, .int .i64 t128, .int .i64 t129, .int .i64 0, .string ⟨#[]⟩, .bool false]) ?_ 4 _ rfl; (with_reducible repeat (first | apply zn_ | apply zd_ | apply za_)); refine zp_ (cs := #[.string t126, .int .i64 t127, .int .i64 t128, .int .i64 0, .int .i64 0, .string ⟨#[]⟩, .bool false]) ?_ 3 _ rfl; (with_reducible repeat (first | apply zn_ | apply zd_ | apply za_)); refine zp_ (cs := #[.string t126, .int .i64 t127, .int .i64 0, .int .i64 0, .int .i64 0, .string ⟨#[]⟩, .bool false]) ?_ 2 _ rfl; (with_reducible repeat (first | apply zn_ | apply zd_ | apply za_)); refine zp_ (cs := #[.string t126, .int .i64 0, .int .i64 0, .int .i64 0, .int .i64 0, .string ⟨#[]⟩, .bool false]) ?_ 1 _ rfl; (with_reducible repeat (first | apply zn_ | apply zd_ | apply za_)); refine zp_ (cs := #[.string ⟨#[]⟩, .int .i64 0, .int .i64 0, .int .i64 0, .int .i64 0, .string ⟨#[]⟩, .bool false]) ?_ 0 _ rfl; (with_reducible repeat (first | apply zn_ | apply zd_ | apply za_)); refine zr_ ?_ NB125_134.out _; exact KK2) Try.underlying53 rfl (by kernel_rfl)) rfl ?_
  exact ⟨by first | rfl | (simp [errW_none, errW_some] <;> rfl) | (simp [*, errW_none, errW_some] <;> rfl), by repeat (first | (with_reducible first | exact HBW | apply pa_ | apply pd_ | apply p1_ | refine zs_ ?_ GE124.out | refine zs_ ?_ GE125.out | refine zs_ ?_ GE134.out) | exact HBW)⟩

end Go.Proofs.Ytcgpbakimkhdpaa.Q
