-- written for this claim by a program of the session
import Derived.Test.YtcgpbakimkhdpaaQx0
import Derived.Test.YtcgpbakimkhdpaaQx7
namespace Go.Proofs.Ytcgpbakimkhdpaa.Q
open Go.RowKit Go.Proofs.YtcgpbakimkhdpaaW.PrintWords Go.Proofs.YtcgpbakimkhdpaaW.PrintLast Go.Proofs.YtcgpbakimkhdpaaW.PrintMore
attribute [local go_sem] max2_int min2_int max_two min_two max_three min_three max_four min_four   -- for this text's walks alone
set_option linter.unusedVariables false
set_option linter.unusedSimpArgs false

/-! ### usufructref04_TextS: function 21 -/
def usufructref04_TextS.f (k : Nat) (a0_0 : ByteArray) (a0_1 : Int) (a0_2 : Int) (a0_3 : Int) (a0_4 : Int) (a0_5 : ByteArray) (a0_6 : Bool) (a1 : Int) : Option (ByteArray × Int × Int × Int × Int × ByteArray × Bool) := (usufructref04_Text.f k a0_0 a0_1 a0_2 a0_3 a0_4 a0_5 a0_6 a1).bind fun bt162 => (some (bt162.1, bt162.2.1, bt162.2.2.1, bt162.2.2.2.1, bt162.2.2.2.2.1, bt162.2.2.2.2.2.2.2, bt162.2.2.2.2.2.2.1))
theorem usufructref04_TextS.mono : ∀ a0 a1 a2 a3 a4 a5 a6 a7 k, LeO (usufructref04_TextS.f k a0 a1 a2 a3 a4 a5 a6 a7) (usufructref04_TextS.f (k + 1) a0 a1 a2 a3 a4 a5 a6 a7) := by
  intro a0 a1 a2 a3 a4 a5 a6 a7 k
  unfold usufructref04_TextS.f
  repeat' first
      | (with_reducible exact usufructref04_Text.mono _ _ _ _ _ _ _ _ _)
      | (with_reducible exact LeO.refl _)
      | (with_reducible exact LeO.none _)
      | (with_reducible refine LeO.ite ?_ ?_)
      | (with_reducible refine LeO.bind ?_ (fun _ => ?_))
      | exact usufructref04_Text.mono _ _ _ _ _ _ _ _ _
      | exact LeO.none _
      | refine LeO.ite ?_ ?_
      | refine LeO.bind ?_ (fun _ => ?_)
namespace usufructref04_TextS
theorem mt_ {α β : Type} {f : α → β} {l : List α} : l.toArray.map f = (l.map f).toArray := List.map_toArray
theorem mc_ {α β : Type} {f : α → β} {a : α} {l : List α} : (a :: l).map f = f a :: l.map f := rfl
theorem mn_ {α β : Type} {f : α → β} : ([] : List α).map f = [] := rfl
abbrev zn_ := @blk_drewN
abbrev zd_ := @blk_drew
abbrev za_ := @blk_alloc
abbrev zf_ := @blk_frozen
abbrev zc_ := @blk_cell
abbrev zs_ := @below_set
abbrev zr_ := @blk_far
abbrev zp_ := @blk_put
abbrev pd_ := @pw_below_drewN
abbrev p1_ := @below_drew1
abbrev pa_ := @below_alloc
abbrev ak_ := @Aside0.mk
abbrev bl_ := @World.block_lt_of_cell?
abbrev ps_ := @below_step
def b_ (n k : Nat) : Array Bool := ((List.range n).map fun i => k.testBit i).toArray
theorem sa_ {α : Type} {l : List α} {i : Nat} {a : α} : l.toArray.setIfInBounds i a = (l.set i a).toArray := List.setIfInBounds_toArray l i a
theorem sz_ {α : Type} {a b : α} {l : List α} : (a :: l).set 0 b = b :: l := rfl
theorem ss_ {α : Type} {a b : α} {l : List α} {n : Nat} : (a :: l).set (n + 1) b = a :: l.set n b := rfl
end usufructref04_TextS
open usufructref04_TextS in
set_option maxHeartbeats 8000000 in
set_option maxRecDepth 100000 in
theorem usufructref04_TextS.calls (k : Nat) (a0_0 : ByteArray) (a0_1 : Int) (a0_2 : Int) (a0_3 : Int) (a0_4 : Int) (a0_5 : ByteArray) (a0_6 : Bool) (a1 : Int) (r1 : ByteArray) (r2 : Int) (r3 : Int) (r4 : Int) (r5 : Int) (r6 : ByteArray) (r7 : Bool) (w : World) (h : usufructref04_TextS.f k a0_0 a0_1 a0_2 a0_3 a0_4 a0_5 a0_6 a1 = some (r1, r2, r3, r4, r5, r6, r7)) :
    Calls Try.prog 21 #[.agg #[.string a0_0, .int .i64 a0_1, .int .i64 a0_2, .int .i64 a0_3, .int .i64 a0_4, .string a0_5, .bool a0_6], .int .i64 a1] w fun e w' => e = .returned (.agg #[.string r1, .int .i64 r2, .int .i64 r3, .int .i64 r4, .int .i64 r5, .string r6, .bool r7]) ∧ Below w.heap.size w w' := by
  have hu53 := Try.underlying53
  have HB := ak_ (Below.refl w.heap.size w)
  have H : ((usufructref04_Text.f k a0_0 a0_1 a0_2 a0_3 a0_4 a0_5 a0_6 a1).bind fun bt162 => (some (bt162.1, bt162.2.1, bt162.2.2.1, bt162.2.2.2.1, bt162.2.2.2.2.1, bt162.2.2.2.2.2.2.2, bt162.2.2.2.2.2.2.1))) = some (r1, r2, r3, r4, r5, r6, r7) := h
  clear h
  replace H := Option.bind_eq_some_iff.mp H
  obtain ⟨⟨t162, t163, t164, t165, t166, t167, t168, t169⟩, A30, H⟩ := H
  replace H : (some (t162, t163, t164, t165, t166, t169, t168)) = some (r1, r2, r3, r4, r5, r6, r7) := H
  have A3 := ak_ A30
  clear A30
  simp only [Option.some.injEq, Prod.mk.injEq] at H
  obtain ⟨rfl, rfl, rfl, rfl, rfl, rfl, rfl⟩ := H
  go_enter Try.func21, Try.ntmps21
  go_upto_region 2 with (first | ((with_reducible refine gate_dst (N := 2) rfl ?_); refine box_event ?hg (N := 2) ?hd (cs := #[.string a0_0, .int .i64 a0_1, .int .i64 a0_2, .int .i64 a0_3, .int .i64 a0_4, .string a0_5, .bool a0_6]) (t := 53) ?hr ?_; (case hd => rfl); (case hg => rfl); (case hr => first | (go_simp; done) | (go_simp; rfl)); intro gb160 hg w4 hbox hb; have n0_ := ak_ (ps_ (by repeat (first | (with_reducible first | exact HB.out | apply pa_ | apply pd_ | apply p1_) | exact HB.out)) hb); have n1_ := ak_ (hbox); have n2_ := ak_ ((by rw [hg]; exact (below_size (by repeat (first | (with_reducible first | exact HB.out | apply pa_ | apply pd_ | apply p1_) | exact HB.out))) : w.heap.size ≤ gb160)); have n3_ := ak_ ((by rw [hg]; exact (below_size (by repeat (first | (with_reducible first | exact HB.out | apply pa_ | apply pd_ | apply p1_) | exact HB.out))) : w.heap.size ≤ gb160)); clear HB; have HB := n0_; have BK160 := n1_; have GW160 := n2_; have GE160 := n3_; clear n0_ n1_ n2_ n3_; clear hb hbox hg) | ((with_reducible refine gate_dst (N := 4) rfl ?_); refine box_event ?hg (N := 4) ?hd (cs := #[.string ⟨#[]⟩, .int .i64 0, .int .i64 0, .int .i64 0, .int .i64 0, .string ⟨#[]⟩, .bool false]) (t := 53) ?hr ?_; (case hd => rfl); (case hg => rfl); (case hr => first | (go_simp; done) | (go_simp; rfl)); intro gb161 hg w5 hbox hb; have n0_ := ak_ (blk_below (g := gb160) (o := .cells #[.string a0_0, .int .i64 a0_1, .int .i64 a0_2, .int .i64 a0_3, .int .i64 a0_4, .string a0_5, .bool a0_6] 53 (0, 0)) (by (with_reducible repeat (first | apply zn_ | apply zd_ | apply za_)); exact BK160.out) hb); have n1_ := ak_ (ps_ (by repeat (first | (with_reducible first | exact HB.out | apply pa_ | apply pd_ | apply p1_ | refine zs_ ?_ GE160.out) | exact HB.out)) hb); have n2_ := ak_ (hbox); have n3_ := ak_ ((by rw [hg]; exact (below_size (by repeat (first | (with_reducible first | exact HB.out | apply pa_ | apply pd_ | apply p1_ | refine zs_ ?_ GE160.out) | exact HB.out))) : w.heap.size ≤ gb161)); have n4_ := ak_ ((by rw [hg]; exact (below_size (by repeat (first | (with_reducible first | exact HB.out | apply pa_ | apply pd_ | apply p1_ | refine zs_ ?_ GE160.out) | exact HB.out))) : w.heap.size ≤ gb161)); have n5_ := ak_ ((by rw [hg]; exact Nat.ne_of_lt (blk_lt (g := gb160) (o := .cells #[.string a0_0, .int .i64 a0_1, .int .i64 a0_2, .int .i64 a0_3, .int .i64 a0_4, .string a0_5, .bool a0_6] 53 (0, 0)) (by (with_reducible repeat (first | apply zn_ | apply zd_ | apply za_)); exact BK160.out)) : gb160 ≠ gb161)); have n6_ := ak_ ((by rw [hg]; exact Nat.ne_of_gt (blk_lt (g := gb160) (o := .cells #[.string a0_0, .int .i64 a0_1, .int .i64 a0_2, .int .i64 a0_3, .int .i64 a0_4, .string a0_5, .bool a0_6] 53 (0, 0)) (by (with_reducible repeat (first | apply zn_ | apply zd_ | apply za_)); exact BK160.out)) : gb161 ≠ gb160)); clear BK160; clear HB; have BK160 := n0_; have HB := n1_; have BK161 := n2_; have GW161 := n3_; have GE161 := n4_; have NB160_161 := n5_; have NB161_160 := n6_; clear n0_ n1_ n2_ n3_ n4_ n5_ n6_; clear hb hbox hg; have hnb6 := NB160_161.out; have hnc6 := NB161_160.out; have hcz7_0 : w5.cell? ⟨gb160, 0, none⟩ = some (.string a0_0) := (zc_ BK160.out 0).trans rfl; have hcz7_1 : w5.cell? ⟨gb160, 1, none⟩ = some (.int .i64 a0_1) := (zc_ BK160.out 1).trans rfl; have hcz7_2 : w5.cell? ⟨gb160, 2, none⟩ = some (.int .i64 a0_2) := (zc_ BK160.out 2).trans rfl; have hcz7_3 : w5.cell? ⟨gb160, 3, none⟩ = some (.int .i64 a0_3) := (zc_ BK160.out 3).trans rfl; have hcz7_4 : w5.cell? ⟨gb160, 4, none⟩ = some (.int .i64 a0_4) := (zc_ BK160.out 4).trans rfl; have hcz7_5 : w5.cell? ⟨gb160, 5, none⟩ = some (.string a0_5) := (zc_ BK160.out 5).trans rfl; have hcz7_6 : w5.cell? ⟨gb160, 6, none⟩ = some (.bool a0_6) := (zc_ BK160.out 6).trans rfl; have hfz7_0 := zf_ BK160.out 0; have hfz7_1 := zf_ BK160.out 1; have hfz7_2 := zf_ BK160.out 2; have hfz7_3 := zf_ BK160.out 3; have hfz7_4 := zf_ BK160.out 4; have hfz7_5 := zf_ BK160.out 5; have hfz7_6 := zf_ BK160.out 6) | ((with_reducible refine gate_callee (f := 33) rfl ?_); refine goesL_ (some 10) rfl rfl Try.func33 (by kernel_rfl) rfl #[.agg #[.string a0_0, .int .i64 a0_1, .int .i64 a0_2, .int .i64 a0_3, .int .i64 a0_4, .string a0_5, .bool a0_6], .int .i64 a1] rfl (by (try simp only [List.map_toArray, List.map_cons, List.map_nil]); first | done | rfl | (simp only [List.length_drop, List.length_take]; rfl)) ?_; (with_reducible refine (usufructref04_Text.calls k a0_0 a0_1 a0_2 a0_3 a0_4 a0_5 a0_6 a1 t162 t163 t164 t165 t166 t167 t168 t169 _ A3.out).mono ?_); rintro e w8 ⟨rfl, hb⟩; refine ⟨_, rfl, ?_⟩; have n0_ := ak_ (blk_below (g := gb160) (o := .cells #[.string a0_0, .int .i64 a0_1, .int .i64 a0_2, .int .i64 a0_3, .int .i64 a0_4, .string a0_5, .bool a0_6] 53 (0, 0)) (by (with_reducible repeat (first | apply zn_ | apply zd_ | apply za_)); exact BK160.out) hb); have n1_ := ak_ (blk_below (g := gb161) (o := .cells #[.string ⟨#[]⟩, .int .i64 0, .int .i64 0, .int .i64 0, .int .i64 0, .string ⟨#[]⟩, .bool false] 53 (0, 0)) (by (with_reducible repeat (first | apply zn_ | apply zd_ | apply za_)); exact BK161.out) hb); have n2_ := ak_ (ps_ (by repeat (first | (with_reducible first | exact HB.out | apply pa_ | apply pd_ | apply p1_ | refine zs_ ?_ GE160.out | refine zs_ ?_ GE161.out) | exact HB.out)) hb); clear BK160; clear BK161; clear HB; have BK160 := n0_; have BK161 := n1_; have HB := n2_; clear n0_ n1_ n2_; (try clear hb hk hi)) | ((with_reducible refine gate_dst (N := 5) rfl ?_); refine box_event ?hg (N := 5) ?hd (cs := #[.string ⟨#[]⟩, .int .i64 0, .int .i64 0, .int .i64 0, .int .i64 0, .string ⟨#[]⟩, .bool false]) (t := 53) ?hr ?_; (case hd => rfl); (case hg => rfl); (case hr => first | (go_simp; done) | (go_simp; rfl)); intro gb170 hg w9 hbox hb; have n0_ := ak_ (blk_below (g := gb160) (o := .cells #[.string a0_0, .int .i64 a0_1, .int .i64 a0_2, .int .i64 a0_3, .int .i64 a0_4, .string a0_5, .bool a0_6] 53 (0, 0)) (by (with_reducible repeat (first | apply zn_ | apply zd_ | apply za_)); exact BK160.out) hb); have n1_ := ak_ (blk_below (g := gb161) (o := .cells #[.string ⟨#[]⟩, .int .i64 0, .int .i64 0, .int .i64 0, .int .i64 0, .string ⟨#[]⟩, .bool false] 53 (0, 0)) (by (with_reducible repeat (first | apply zn_ | apply zd_ | apply za_)); exact BK161.out) hb); have n2_ := ak_ (ps_ (by repeat (first | (with_reducible first | exact HB.out | apply pa_ | apply pd_ | apply p1_ | refine zs_ ?_ GE160.out | refine zs_ ?_ GE161.out) | exact HB.out)) hb); have n3_ := ak_ (hbox); have n4_ := ak_ ((by rw [hg]; exact (below_size (by repeat (first | (with_reducible first | exact HB.out | apply pa_ | apply pd_ | apply p1_ | refine zs_ ?_ GE160.out | refine zs_ ?_ GE161.out) | exact HB.out))) : w.heap.size ≤ gb170)); have n5_ := ak_ ((by rw [hg]; exact (below_size (by repeat (first | (with_reducible first | exact HB.out | apply pa_ | apply pd_ | apply p1_ | refine zs_ ?_ GE160.out | refine zs_ ?_ GE161.out) | exact HB.out))) : w.heap.size ≤ gb170)); have n6_ := ak_ ((by rw [hg]; exact Nat.ne_of_lt (blk_lt (g := gb160) (o := .cells #[.string a0_0, .int .i64 a0_1, .int .i64 a0_2, .int .i64 a0_3, .int .i64 a0_4, .string a0_5, .bool a0_6] 53 (0, 0)) (by (with_reducible repeat (first | apply zn_ | apply zd_ | apply za_)); exact BK160.out)) : gb160 ≠ gb170)); have n7_ := ak_ ((by rw [hg]; exact Nat.ne_of_gt (blk_lt (g := gb160) (o := .cells #[.string a0_0, .int .i64 a0_1, .int .i64 a0_2, .int .i64 a0_3, .int .i64 a0_4, .string a0_5, .bool a0_6] 53 (0, 0)) (by (with_reducible repeat (first | apply zn_ | apply zd_ | apply za_)); exact BK160.out)) : gb170 ≠ gb160)); have n8_ := ak_ ((by rw [hg]; exact Nat.ne_of_lt (blk_lt (g := gb161) (o := .cells #[.string ⟨#[]⟩, .int .i64 0, .int .i64 0, .int .i64 0, .int .i64 0, .string ⟨#[]⟩, .bool false] 53 (0, 0)) (by (with_reducible repeat (first | apply zn_ | apply zd_ | apply za_)); exact BK161.out)) : gb161 ≠ gb170)); have n9_ := ak_ ((by rw [hg]; exact Nat.ne_of_gt (blk_lt (g := gb161) (o := .cells #[.string ⟨#[]⟩, .int .i64 0, .int .i64 0, .int .i64 0, .int .i64 0, .string ⟨#[]⟩, .bool false] 53 (0, 0)) (by (with_reducible repeat (first | apply zn_ | apply zd_ | apply za_)); exact BK161.out)) : gb170 ≠ gb161)); clear BK160; clear BK161; clear HB; have BK160 := n0_; have BK161 := n1_; have HB := n2_; have BK170 := n3_; have GW170 := n4_; have GE170 := n5_; have NB160_170 := n6_; have NB170_160 := n7_; have NB161_170 := n8_; have NB170_161 := n9_; clear n0_ n1_ n2_ n3_ n4_ n5_ n6_ n7_ n8_ n9_; clear hb hbox hg; have hnb10 := NB170_160.out; have hnc10 := NB160_170.out; have hnb11 := NB170_161.out; have hnc11 := NB161_170.out; have hcz12_0 : w9.cell? ⟨gb170, 0, none⟩ = some (.string ⟨#[]⟩) := (zc_ BK170.out 0).trans rfl; have hcz12_1 : w9.cell? ⟨gb170, 1, none⟩ = some (.int .i64 0) := (zc_ BK170.out 1).trans rfl; have hcz12_2 : w9.cell? ⟨gb170, 2, none⟩ = some (.int .i64 0) := (zc_ BK170.out 2).trans rfl; have hcz12_3 : w9.cell? ⟨gb170, 3, none⟩ = some (.int .i64 0) := (zc_ BK170.out 3).trans rfl; have hcz12_4 : w9.cell? ⟨gb170, 4, none⟩ = some (.int .i64 0) := (zc_ BK170.out 4).trans rfl; have hcz12_5 : w9.cell? ⟨gb170, 5, none⟩ = some (.string ⟨#[]⟩) := (zc_ BK170.out 5).trans rfl; have hcz12_6 : w9.cell? ⟨gb170, 6, none⟩ = some (.bool false) := (zc_ BK170.out 6).trans rfl; have hfz12_0 := zf_ BK170.out 0; have hfz12_1 := zf_ BK170.out 1; have hfz12_2 := zf_ BK170.out 2; have hfz12_3 := zf_ BK170.out 3; have hfz12_4 := zf_ BK170.out 4; have hfz12_5 := zf_ BK170.out 5; have hfz12_6 := zf_ BK170.out 6; have hcz13_0 : w9.cell? ⟨gb161, 0, none⟩ = some (.string ⟨#[]⟩) := (zc_ BK161.out 0).trans rfl; have hcz13_1 : w9.cell? ⟨gb161, 1, none⟩ = some (.int .i64 0) := (zc_ BK161.out 1).trans rfl; have hcz13_2 : w9.cell? ⟨gb161, 2, none⟩ = some (.int .i64 0) := (zc_ BK161.out 2).trans rfl; have hcz13_3 : w9.cell? ⟨gb161, 3, none⟩ = some (.int .i64 0) := (zc_ BK161.out 3).trans rfl; have hcz13_4 : w9.cell? ⟨gb161, 4, none⟩ = some (.int .i64 0) := (zc_ BK161.out 4).trans rfl; have hcz13_5 : w9.cell? ⟨gb161, 5, none⟩ = some (.string ⟨#[]⟩) := (zc_ BK161.out 5).trans rfl; have hcz13_6 : w9.cell? ⟨gb161, 6, none⟩ = some (.bool false) := (zc_ BK161.out 6).trans rfl; have hfz13_0 := zf_ BK161.out 0; have hfz13_1 := zf_ BK161.out 1; have hfz13_2 := zf_ BK161.out 2; have hfz13_3 := zf_ BK161.out 3; have hfz13_4 := zf_ BK161.out 4; have hfz13_5 := zf_ BK161.out 5; have hfz13_6 := zf_ BK161.out 6))
  have KK1 := (zp_ (zp_ (zp_ (zp_ (zp_ (zp_ (zp_ BK170.out 0 (.string t162) rfl) 1 (.int .i64 t163) rfl) 2 (.int .i64 t164) rfl) 3 (.int .i64 t165) rfl) 4 (.int .i64 t166) rfl) 5 (.string t167) rfl) 6 (.bool t168) rfl)
  have KK2 := (zr_ (p := ⟨gb170, 6, none⟩) (zr_ (p := ⟨gb170, 5, none⟩) (zr_ (p := ⟨gb170, 4, none⟩) (zr_ (p := ⟨gb170, 3, none⟩) (zr_ (p := ⟨gb170, 2, none⟩) (zr_ (p := ⟨gb170, 1, none⟩) (zr_ (p := ⟨gb170, 0, none⟩) BK161.out NB161_170.out (.string t162)) NB161_170.out (.int .i64 t163)) NB161_170.out (.int .i64 t164)) NB161_170.out (.int .i64 t165)) NB161_170.out (.int .i64 t166)) NB161_170.out (.string t167)) NB161_170.out (.bool t168))
  have HBW := (zs_ (g := gb170) (j := 6) (v := .bool t168) (zs_ (g := gb170) (j := 5) (v := .string t167) (zs_ (g := gb170) (j := 4) (v := .int .i64 t166) (zs_ (g := gb170) (j := 3) (v := .int .i64 t165) (zs_ (g := gb170) (j := 2) (v := .int .i64 t164) (zs_ (g := gb170) (j := 1) (v := .int .i64 t163) (zs_ (g := gb170) (j := 0) (v := .string t162) HB.out GE170.out) GE170.out) GE170.out) GE170.out) GE170.out) GE170.out) GE170.out)
  generalize (((((((w9.setCell ⟨gb170, 0, none⟩ (.string t162)).setCell ⟨gb170, 1, none⟩ (.int .i64 t163)).setCell ⟨gb170, 2, none⟩ (.int .i64 t164)).setCell ⟨gb170, 3, none⟩ (.int .i64 t165)).setCell ⟨gb170, 4, none⟩ (.int .i64 t166)).setCell ⟨gb170, 5, none⟩ (.string t167)).setCell ⟨gb170, 6, none⟩ (.bool t168)) = W_ at *
  have hz0 := zc_ KK1 0
  have hz1 := zc_ KK1 1
  have hz2 := zc_ KK1 2
  have hz3 := zc_ KK1 3
  have hz4 := zc_ KK1 4
  have hz5 := zc_ KK1 5
  have hz6 := zc_ KK1 6
  have hf0 := zf_ KK1 0
  have hf1 := zf_ KK1 1
  have hf2 := zf_ KK1 2
  have hf3 := zf_ KK1 3
  have hf4 := zf_ KK1 4
  have hf5 := zf_ KK1 5
  have hf6 := zf_ KK1 6
  have gz0 := zc_ KK2 0
  have gz1 := zc_ KK2 1
  have gz2 := zc_ KK2 2
  have gz3 := zc_ KK2 3
  have gz4 := zc_ KK2 4
  have gz5 := zc_ KK2 5
  have gz6 := zc_ KK2 6
  have gf0 := zf_ KK2 0
  have gf1 := zf_ KK2 1
  have gf2 := zf_ KK2 2
  have gf3 := zf_ KK2 3
  have gf4 := zf_ KK2 4
  have gf5 := zf_ KK2 5
  have gf6 := zf_ KK2 6
  go_wp2
  refine bodyPost_ret (results_cell_row rfl _ _ gb161 53 #[.string t162, .int .i64 t163, .int .i64 t164, .int .i64 t165, .int .i64 t166, .string t169, .bool t168] (0, 0) _ rfl (by (with_reducible repeat (first | apply zn_ | apply zd_ | apply za_)); refine zp_ (cs := #[.string t162, .int .i64 t163, .int .i64 t164, .int .i64 t165, .int .i64 t166, .string t169, .bool false]) ?_ 6 _ rfl; (with_reducible repeat (first | apply zn_ | apply zd_ | apply za_)); refine zp_ (cs := #[.string t162, .int .i64 t163, .int .i64 t164, .int .i64 t165, .int .i64 t166, .string ⟨#[]⟩, .bool false]) ?_ 5 _ rfl; (with_reducible repeat (first | apply zn_ | apply zd_ | apply za_)); refine zp_ (cs := #[.string t162, .int .i64 t163, .int .i64 t164, .int .i64 t165, .int .i64 0, .string ⟨#[]⟩, .bool false]) ?_ 4 _ rfl; (with_reducible repeat (first | apply zn_ | apply zd_ | apply za_)); refine zp_ (cs := #[.string t162, .int .i64 t163, .int .i64 t164, .int .i64 0, .int .i64 0, .string ⟨#[]⟩, .bool false]) ?_ 3 _ rfl; (with_reducible repeat (first | apply zn_ | apply zd_ | apply za_)); refine zp_ (cs := #[.string t162, .int .i64 t163, .int .i64 0, .int .i64 0, .int .i64 0, .string ⟨#[]⟩, .bool false]) ?_ 2 _ rfl; (with_reducible repeat (first | apply zn_ | apply zd_ | apply za_)); refine zp_ (cs := #[.string t162, .int .i64 0, .int .i64 0, .int .i64 0, .int .i64 0, .string ⟨#[]⟩, .bool false]) ?_ 1 _ rfl; (with_reducible repeat (first | apply zn_ | apply zd_ | apply za_)); refine zp_ (cs := #[.string ⟨#[]⟩, .int .i64 0, .int .i64 0, .int .i64 0, .int .i64 0, .string ⟨#[]⟩, .bool false]) ?_ 0 _ rfl; (with_reducible repeat (first | apply zn_ | apply zd_ | apply za_)); refine zr_ ?_ NB161_170.out _; exact KK2) Try.underlying53 rfl (by kernel_rfl)) rfl ?_
  exact ⟨by first | rfl | (simp [errW_none, errW_some] <;> rfl) | (simp [*, errW_none, errW_some] <;> rfl), by repeat (first | (with_reducible first | exact HBW | apply pa_ | apply pd_ | apply p1_ | refine zs_ ?_ GE160.out | refine zs_ ?_ GE161.out | refine zs_ ?_ GE170.out) | exact HBW)⟩

end Go.Proofs.Ytcgpbakimkhdpaa.Q
