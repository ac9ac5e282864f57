-- written for this claim by a program of the session
import Derived.Test.YtookpfpmobbhiaaQx0
namespace Go.Proofs.Ytookpfpmobbhiaa.Q
open Go.RowKit Go.Proofs.YtookpfpmobbhiaaW.PrintWords Go.Proofs.YtookpfpmobbhiaaW.PrintLast Go.Proofs.YtookpfpmobbhiaaW.PrintMore
attribute [local go_sem] max2_int min2_int max_two min_two max_three min_three max_four min_four   -- for this text's walks alone
set_option linter.unusedVariables false
set_option linter.unusedSimpArgs false

/-! ### usufructref11_Good: function 36 -/
def usufructref11_Good.f (a0_0 : Int) (a0_1 : Int) (a0_2 : Int) (a0_3 : Int) : Option (Bool) := if a0_0 ≥ 0 then (if a0_0 ≤ 1000 then (if a0_1 ≥ 1 then (if a0_1 ≤ 1099511627776 then (if a0_2 ≥ 1 then (if a0_2 ≤ 16 then (if a0_3 ≥ a0_1 then (some (decide (a0_3 ≤ 1099511627776))) else (some false)) else (some false)) else (some false)) else (some false)) else (some false)) else (some false)) else (some false)
namespace usufructref11_Good
theorem mt_ {α β : Type} {f : α → β} {l : List α} : l.toArray.map f = (l.map f).toArray := List.map_toArray
theorem mc_ {α β : Type} {f : α → β} {a : α} {l : List α} : (a :: l).map f = f a :: l.map f := rfl
theorem mn_ {α β : Type} {f : α → β} : ([] : List α).map f = [] := rfl
abbrev zn_ := @blk_drewN
abbrev zd_ := @blk_drew
abbrev za_ := @blk_alloc
abbrev zf_ := @blk_frozen
abbrev zc_ := @blk_cell
abbrev zs_ := @below_set
abbrev zr_ := @blk_far
abbrev zp_ := @blk_put
abbrev pd_ := @pw_below_drewN
abbrev p1_ := @below_drew1
abbrev pa_ := @below_alloc
abbrev ak_ := @Aside0.mk
abbrev bl_ := @World.block_lt_of_cell?
abbrev ps_ := @below_step
def b_ (n k : Nat) : Array Bool := ((List.range n).map fun i => k.testBit i).toArray
theorem sa_ {α : Type} {l : List α} {i : Nat} {a : α} : l.toArray.setIfInBounds i a = (l.set i a).toArray := List.setIfInBounds_toArray l i a
theorem sz_ {α : Type} {a b : α} {l : List α} : (a :: l).set 0 b = b :: l := rfl
theorem ss_ {α : Type} {a b : α} {l : List α} {n : Nat} : (a :: l).set (n + 1) b = a :: l.set n b := rfl
end usufructref11_Good
open usufructref11_Good in
set_option maxHeartbeats 8000000 in
set_option maxRecDepth 100000 in
theorem usufructref11_Good.calls (a0_0 : Int) (a0_1 : Int) (a0_2 : Int) (a0_3 : Int) (r : Bool) (w : World) (h : usufructref11_Good.f a0_0 a0_1 a0_2 a0_3 = some r) :
    Calls Try.prog 36 #[.agg #[.int .i64 a0_0, .int .i64 a0_1, .int .i64 a0_2, .int .i64 a0_3]] w fun e w' => e = .returned (.bool r) ∧ Below w.heap.size w w' := by
  have hu47 := Try.underlying47
  have HB := ak_ (Below.refl w.heap.size w)
  have H : (if a0_0 ≥ 0 then (if a0_0 ≤ 1000 then (if a0_1 ≥ 1 then (if a0_1 ≤ 1099511627776 then (if a0_2 ≥ 1 then (if a0_2 ≤ 16 then (if a0_3 ≥ a0_1 then (some (decide (a0_3 ≤ 1099511627776))) else (some false)) else (some false)) else (some false)) else (some false)) else (some false)) else (some false)) else (some false)) = some r := h
  clear h
  by_cases c2 : a0_0 ≥ 0
  · rw [if_pos c2] at H
    have c2b0 : decide (0 ≤ a0_0) = true := decide_eq_true c2
    clear c2
    by_cases c3 : a0_0 ≤ 1000
    · rw [if_pos c3] at H
      have c3b0 : decide (a0_0 ≤ 1000) = true := decide_eq_true c3
      clear c3
      by_cases c4 : a0_1 ≥ 1
      · rw [if_pos c4] at H
        have c4b0 : decide (1 ≤ a0_1) = true := decide_eq_true c4
        clear c4
        by_cases c5 : a0_1 ≤ 1099511627776
        · rw [if_pos c5] at H
          have c5b0 : decide (a0_1 ≤ 1099511627776) = true := decide_eq_true c5
          clear c5
          by_cases c6 : a0_2 ≥ 1
          · rw [if_pos c6] at H
            have c6b0 : decide (1 ≤ a0_2) = true := decide_eq_true c6
            clear c6
            by_cases c7 : a0_2 ≤ 16
            · rw [if_pos c7] at H
              have c7b0 : decide (a0_2 ≤ 16) = true := decide_eq_true c7
              clear c7
              by_cases c8 : a0_3 ≥ a0_1
              · rw [if_pos c8] at H
                have c8b0 : decide (a0_1 ≤ a0_3) = true := decide_eq_true c8
                clear c8
                obtain rfl := Option.some.inj H
                go_enter Try.func36, Try.ntmps36
                go_wp2_with (first | ((with_reducible refine gate_dst (N := 1) rfl ?_); refine box_event ?hg (N := 1) ?hd (cs := #[.int .i64 a0_0, .int .i64 a0_1, .int .i64 a0_2, .int .i64 a0_3]) (t := 47) ?hr ?_; (case hd => rfl); (case hg => rfl); (case hr => first | (go_simp; done) | (go_simp; rfl)); intro gb192 hg w9 hbox hb; have n0_ := ak_ (ps_ (by repeat (first | (with_reducible first | exact HB.out | apply pa_ | apply pd_ | apply p1_) | exact HB.out)) hb); have n1_ := ak_ (hbox); have n2_ := ak_ ((by rw [hg]; exact (below_size (by repeat (first | (with_reducible first | exact HB.out | apply pa_ | apply pd_ | apply p1_) | exact HB.out))) : w.heap.size ≤ gb192)); have n3_ := ak_ ((by rw [hg]; exact (below_size (by repeat (first | (with_reducible first | exact HB.out | apply pa_ | apply pd_ | apply p1_) | exact HB.out))) : w.heap.size ≤ gb192)); clear HB; have HB := n0_; have BK192 := n1_; have GW192 := n2_; have GE192 := n3_; clear n0_ n1_ n2_ n3_; clear hb hbox hg; have hcz10_0 : w9.cell? ⟨gb192, 0, none⟩ = some (.int .i64 a0_0) := (zc_ BK192.out 0).trans rfl; have hcz10_1 : w9.cell? ⟨gb192, 1, none⟩ = some (.int .i64 a0_1) := (zc_ BK192.out 1).trans rfl; have hcz10_2 : w9.cell? ⟨gb192, 2, none⟩ = some (.int .i64 a0_2) := (zc_ BK192.out 2).trans rfl; have hcz10_3 : w9.cell? ⟨gb192, 3, none⟩ = some (.int .i64 a0_3) := (zc_ BK192.out 3).trans rfl; have hfz10_0 := zf_ BK192.out 0; have hfz10_1 := zf_ BK192.out 1; have hfz10_2 := zf_ BK192.out 2; have hfz10_3 := zf_ BK192.out 3))
                go_ret
                exact ⟨by first | rfl | (simp [errW_none, errW_some] <;> rfl) | (simp [*, errW_none, errW_some] <;> rfl), by repeat (first | (with_reducible first | exact HB.out | apply pa_ | apply pd_ | apply p1_ | refine zs_ ?_ GE192.out) | exact HB.out)⟩
              rw [if_neg c8] at H
              have c8b0 : decide (a0_1 ≤ a0_3) = false := decide_eq_false c8
              clear c8
              obtain rfl := Option.some.inj H
              go_enter Try.func36, Try.ntmps36
              go_wp2_with (first | ((with_reducible refine gate_dst (N := 1) rfl ?_); refine box_event ?hg (N := 1) ?hd (cs := #[.int .i64 a0_0, .int .i64 a0_1, .int .i64 a0_2, .int .i64 a0_3]) (t := 47) ?hr ?_; (case hd => rfl); (case hg => rfl); (case hr => first | (go_simp; done) | (go_simp; rfl)); intro gb192 hg w11 hbox hb; have n0_ := ak_ (ps_ (by repeat (first | (with_reducible first | exact HB.out | apply pa_ | apply pd_ | apply p1_) | exact HB.out)) hb); have n1_ := ak_ (hbox); have n2_ := ak_ ((by rw [hg]; exact (below_size (by repeat (first | (with_reducible first | exact HB.out | apply pa_ | apply pd_ | apply p1_) | exact HB.out))) : w.heap.size ≤ gb192)); have n3_ := ak_ ((by rw [hg]; exact (below_size (by repeat (first | (with_reducible first | exact HB.out | apply pa_ | apply pd_ | apply p1_) | exact HB.out))) : w.heap.size ≤ gb192)); clear HB; have HB := n0_; have BK192 := n1_; have GW192 := n2_; have GE192 := n3_; clear n0_ n1_ n2_ n3_; clear hb hbox hg; have hcz12_0 : w11.cell? ⟨gb192, 0, none⟩ = some (.int .i64 a0_0) := (zc_ BK192.out 0).trans rfl; have hcz12_1 : w11.cell? ⟨gb192, 1, none⟩ = some (.int .i64 a0_1) := (zc_ BK192.out 1).trans rfl; have hcz12_2 : w11.cell? ⟨gb192, 2, none⟩ = some (.int .i64 a0_2) := (zc_ BK192.out 2).trans rfl; have hcz12_3 : w11.cell? ⟨gb192, 3, none⟩ = some (.int .i64 a0_3) := (zc_ BK192.out 3).trans rfl; have hfz12_0 := zf_ BK192.out 0; have hfz12_1 := zf_ BK192.out 1; have hfz12_2 := zf_ BK192.out 2; have hfz12_3 := zf_ BK192.out 3))
              go_ret
              exact ⟨by first | rfl | (simp [errW_none, errW_some] <;> rfl) | (simp [*, errW_none, errW_some] <;> rfl), by repeat (first | (with_reducible first | exact HB.out | apply pa_ | apply pd_ | apply p1_ | refine zs_ ?_ GE192.out) | exact HB.out)⟩
            rw [if_neg c7] at H
            have c7b0 : decide (a0_2 ≤ 16) = false := decide_eq_false c7
            clear c7
            obtain rfl := Option.some.inj H
            go_enter Try.func36, Try.ntmps36
            go_wp2_with (first | ((with_reducible refine gate_dst (N := 1) rfl ?_); refine box_event ?hg (N := 1) ?hd (cs := #[.int .i64 a0_0, .int .i64 a0_1, .int .i64 a0_2, .int .i64 a0_3]) (t := 47) ?hr ?_; (case hd => rfl); (case hg => rfl); (case hr => first | (go_simp; done) | (go_simp; rfl)); intro gb192 hg w13 hbox hb; have n0_ := ak_ (ps_ (by repeat (first | (with_reducible first | exact HB.out | apply pa_ | apply pd_ | apply p1_) | exact HB.out)) hb); have n1_ := ak_ (hbox); have n2_ := ak_ ((by rw [hg]; exact (below_size (by repeat (first | (with_reducible first | exact HB.out | apply pa_ | apply pd_ | apply p1_) | exact HB.out))) : w.heap.size ≤ gb192)); have n3_ := ak_ ((by rw [hg]; exact (below_size (by repeat (first | (with_reducible first | exact HB.out | apply pa_ | apply pd_ | apply p1_) | exact HB.out))) : w.heap.size ≤ gb192)); clear HB; have HB := n0_; have BK192 := n1_; have GW192 := n2_; have GE192 := n3_; clear n0_ n1_ n2_ n3_; clear hb hbox hg; have hcz14_0 : w13.cell? ⟨gb192, 0, none⟩ = some (.int .i64 a0_0) := (zc_ BK192.out 0).trans rfl; have hcz14_1 : w13.cell? ⟨gb192, 1, none⟩ = some (.int .i64 a0_1) := (zc_ BK192.out 1).trans rfl; have hcz14_2 : w13.cell? ⟨gb192, 2, none⟩ = some (.int .i64 a0_2) := (zc_ BK192.out 2).trans rfl; have hcz14_3 : w13.cell? ⟨gb192, 3, none⟩ = some (.int .i64 a0_3) := (zc_ BK192.out 3).trans rfl; have hfz14_0 := zf_ BK192.out 0; have hfz14_1 := zf_ BK192.out 1; have hfz14_2 := zf_ BK192.out 2; have hfz14_3 := zf_ BK192.out 3))
            go_ret
            exact ⟨by first | rfl | (simp [errW_none, errW_some] <;> rfl) | (simp [*, errW_none, errW_some] <;> rfl), by repeat (first | (with_reducible first | exact HB.out | apply pa_ | apply pd_ | apply p1_ | refine zs_ ?_ GE192.out) | exact HB.out)⟩
          rw [if_neg c6] at H
          have c6b0 : decide (1 ≤ a0_2) = false := decide_eq_false c6
          clear c6
          obtain rfl := Option.some.inj H
          go_enter Try.func36, Try.ntmps36
          go_wp2_with (first | ((with_reducible refine gate_dst (N := 1) rfl ?_); refine box_event ?hg (N := 1) ?hd (cs := #[.int .i64 a0_0, .int .i64 a0_1, .int .i64 a0_2, .int .i64 a0_3]) (t := 47) ?hr ?_; (case hd => rfl); (case hg => rfl); (case hr => first | (go_simp; done) | (go_simp; rfl)); intro gb192 hg w15 hbox hb; have n0_ := ak_ (ps_ (by repeat (first | (with_reducible first | exact HB.out | apply pa_ | apply pd_ | apply p1_) | exact HB.out)) hb); have n1_ := ak_ (hbox); have n2_ := ak_ ((by rw [hg]; exact (below_size (by repeat (first | (with_reducible first | exact HB.out | apply pa_ | apply pd_ | apply p1_) | exact HB.out))) : w.heap.size ≤ gb192)); have n3_ := ak_ ((by rw [hg]; exact (below_size (by repeat (first | (with_reducible first | exact HB.out | apply pa_ | apply pd_ | apply p1_) | exact HB.out))) : w.heap.size ≤ gb192)); clear HB; have HB := n0_; have BK192 := n1_; have GW192 := n2_; have GE192 := n3_; clear n0_ n1_ n2_ n3_; clear hb hbox hg; have hcz16_0 : w15.cell? ⟨gb192, 0, none⟩ = some (.int .i64 a0_0) := (zc_ BK192.out 0).trans rfl; have hcz16_1 : w15.cell? ⟨gb192, 1, none⟩ = some (.int .i64 a0_1) := (zc_ BK192.out 1).trans rfl; have hcz16_2 : w15.cell? ⟨gb192, 2, none⟩ = some (.int .i64 a0_2) := (zc_ BK192.out 2).trans rfl; have hcz16_3 : w15.cell? ⟨gb192, 3, none⟩ = some (.int .i64 a0_3) := (zc_ BK192.out 3).trans rfl; have hfz16_0 := zf_ BK192.out 0; have hfz16_1 := zf_ BK192.out 1; have hfz16_2 := zf_ BK192.out 2; have hfz16_3 := zf_ BK192.out 3))
          go_ret
          exact ⟨by first | rfl | (simp [errW_none, errW_some] <;> rfl) | (simp [*, errW_none, errW_some] <;> rfl), by repeat (first | (with_reducible first | exact HB.out | apply pa_ | apply pd_ | apply p1_ | refine zs_ ?_ GE192.out) | exact HB.out)⟩
        rw [if_neg c5] at H
        have c5b0 : decide (a0_1 ≤ 1099511627776) = false := decide_eq_false c5
        clear c5
        obtain rfl := Option.some.inj H
        go_enter Try.func36, Try.ntmps36
        go_wp2_with (first | ((with_reducible refine gate_dst (N := 1) rfl ?_); refine box_event ?hg (N := 1) ?hd (cs := #[.int .i64 a0_0, .int .i64 a0_1, .int .i64 a0_2, .int .i64 a0_3]) (t := 47) ?hr ?_; (case hd => rfl); (case hg => rfl); (case hr => first | (go_simp; done) | (go_simp; rfl)); intro gb192 hg w17 hbox hb; have n0_ := ak_ (ps_ (by repeat (first | (with_reducible first | exact HB.out | apply pa_ | apply pd_ | apply p1_) | exact HB.out)) hb); have n1_ := ak_ (hbox); have n2_ := ak_ ((by rw [hg]; exact (below_size (by repeat (first | (with_reducible first | exact HB.out | apply pa_ | apply pd_ | apply p1_) | exact HB.out))) : w.heap.size ≤ gb192)); have n3_ := ak_ ((by rw [hg]; exact (below_size (by repeat (first | (with_reducible first | exact HB.out | apply pa_ | apply pd_ | apply p1_) | exact HB.out))) : w.heap.size ≤ gb192)); clear HB; have HB := n0_; have BK192 := n1_; have GW192 := n2_; have GE192 := n3_; clear n0_ n1_ n2_ n3_; clear hb hbox hg; have hcz18_0 : w17.cell? ⟨gb192, 0, none⟩ = some (.int .i64 a0_0) := (zc_ BK192.out 0).trans rfl; have hcz18_1 : w17.cell? ⟨gb192, 1, none⟩ = some (.int .i64 a0_1) := (zc_ BK192.out 1).trans rfl; have hcz18_2 : w17.cell? ⟨gb192, 2, none⟩ = some (.int .i64 a0_2) := (zc_ BK192.out 2).trans rfl; have hcz18_3 : w17.cell? ⟨gb192, 3, none⟩ = some (.int .i64 a0_3) := (zc_ BK192.out 3).trans rfl; have hfz18_0 := zf_ BK192.out 0; have hfz18_1 := zf_ BK192.out 1; have hfz18_2 := zf_ BK192.out 2; have hfz18_3 := zf_ BK192.out 3))
        go_ret
        exact ⟨by first | rfl | (simp [errW_none, errW_some] <;> rfl) | (simp [*, errW_none, errW_some] <;> rfl), by repeat (first | (with_reducible first | exact HB.out | apply pa_ | apply pd_ | apply p1_ | refine zs_ ?_ GE192.out) | exact HB.out)⟩
      rw [if_neg c4] at H
      have c4b0 : decide (1 ≤ a0_1) = false := decide_eq_false c4
      clear c4
      obtain rfl := Option.some.inj H
      go_enter Try.func36, Try.ntmps36
      go_wp2_with (first | ((with_reducible refine gate_dst (N := 1) rfl ?_); refine box_event ?hg (N := 1) ?hd (cs := #[.int .i64 a0_0, .int .i64 a0_1, .int .i64 a0_2, .int .i64 a0_3]) (t := 47) ?hr ?_; (case hd => rfl); (case hg => rfl); (case hr => first | (go_simp; done) | (go_simp; rfl)); intro gb192 hg w19 hbox hb; have n0_ := ak_ (ps_ (by repeat (first | (with_reducible first | exact HB.out | apply pa_ | apply pd_ | apply p1_) | exact HB.out)) hb); have n1_ := ak_ (hbox); have n2_ := ak_ ((by rw [hg]; exact (below_size (by repeat (first | (with_reducible first | exact HB.out | apply pa_ | apply pd_ | apply p1_) | exact HB.out))) : w.heap.size ≤ gb192)); have n3_ := ak_ ((by rw [hg]; exact (below_size (by repeat (first | (with_reducible first | exact HB.out | apply pa_ | apply pd_ | apply p1_) | exact HB.out))) : w.heap.size ≤ gb192)); clear HB; have HB := n0_; have BK192 := n1_; have GW192 := n2_; have GE192 := n3_; clear n0_ n1_ n2_ n3_; clear hb hbox hg; have hcz20_0 : w19.cell? ⟨gb192, 0, none⟩ = some (.int .i64 a0_0) := (zc_ BK192.out 0).trans rfl; have hcz20_1 : w19.cell? ⟨gb192, 1, none⟩ = some (.int .i64 a0_1) := (zc_ BK192.out 1).trans rfl; have hcz20_2 : w19.cell? ⟨gb192, 2, none⟩ = some (.int .i64 a0_2) := (zc_ BK192.out 2).trans rfl; have hcz20_3 : w19.cell? ⟨gb192, 3, none⟩ = some (.int .i64 a0_3) := (zc_ BK192.out 3).trans rfl; have hfz20_0 := zf_ BK192.out 0; have hfz20_1 := zf_ BK192.out 1; have hfz20_2 := zf_ BK192.out 2; have hfz20_3 := zf_ BK192.out 3))
      go_ret
      exact ⟨by first | rfl | (simp [errW_none, errW_some] <;> rfl) | (simp [*, errW_none, errW_some] <;> rfl), by repeat (first | (with_reducible first | exact HB.out | apply pa_ | apply pd_ | apply p1_ | refine zs_ ?_ GE192.out) | exact HB.out)⟩
    rw [if_neg c3] at H
    have c3b0 : decide (a0_0 ≤ 1000) = false := decide_eq_false c3
    clear c3
    obtain rfl := Option.some.inj H
    go_enter Try.func36, Try.ntmps36
    go_wp2_with (first | ((with_reducible refine gate_dst (N := 1) rfl ?_); refine box_event ?hg (N := 1) ?hd (cs := #[.int .i64 a0_0, .int .i64 a0_1, .int .i64 a0_2, .int .i64 a0_3]) (t := 47) ?hr ?_; (case hd => rfl); (case hg => rfl); (case hr => first | (go_simp; done) | (go_simp; rfl)); intro gb192 hg w21 hbox hb; have n0_ := ak_ (ps_ (by repeat (first | (with_reducible first | exact HB.out | apply pa_ | apply pd_ | apply p1_) | exact HB.out)) hb); have n1_ := ak_ (hbox); have n2_ := ak_ ((by rw [hg]; exact (below_size (by repeat (first | (with_reducible first | exact HB.out | apply pa_ | apply pd_ | apply p1_) | exact HB.out))) : w.heap.size ≤ gb192)); have n3_ := ak_ ((by rw [hg]; exact (below_size (by repeat (first | (with_reducible first | exact HB.out | apply pa_ | apply pd_ | apply p1_) | exact HB.out))) : w.heap.size ≤ gb192)); clear HB; have HB := n0_; have BK192 := n1_; have GW192 := n2_; have GE192 := n3_; clear n0_ n1_ n2_ n3_; clear hb hbox hg; have hcz22_0 : w21.cell? ⟨gb192, 0, none⟩ = some (.int .i64 a0_0) := (zc_ BK192.out 0).trans rfl; have hcz22_1 : w21.cell? ⟨gb192, 1, none⟩ = some (.int .i64 a0_1) := (zc_ BK192.out 1).trans rfl; have hcz22_2 : w21.cell? ⟨gb192, 2, none⟩ = some (.int .i64 a0_2) := (zc_ BK192.out 2).trans rfl; have hcz22_3 : w21.cell? ⟨gb192, 3, none⟩ = some (.int .i64 a0_3) := (zc_ BK192.out 3).trans rfl; have hfz22_0 := zf_ BK192.out 0; have hfz22_1 := zf_ BK192.out 1; have hfz22_2 := zf_ BK192.out 2; have hfz22_3 := zf_ BK192.out 3))
    go_ret
    exact ⟨by first | rfl | (simp [errW_none, errW_some] <;> rfl) | (simp [*, errW_none, errW_some] <;> rfl), by repeat (first | (with_reducible first | exact HB.out | apply pa_ | apply pd_ | apply p1_ | refine zs_ ?_ GE192.out) | exact HB.out)⟩
  rw [if_neg c2] at H
  have c2b0 : decide (0 ≤ a0_0) = false := decide_eq_false c2
  clear c2
  obtain rfl := Option.some.inj H
  go_enter Try.func36, Try.ntmps36
  go_wp2_with (first | ((with_reducible refine gate_dst (N := 1) rfl ?_); refine box_event ?hg (N := 1) ?hd (cs := #[.int .i64 a0_0, .int .i64 a0_1, .int .i64 a0_2, .int .i64 a0_3]) (t := 47) ?hr ?_; (case hd => rfl); (case hg => rfl); (case hr => first | (go_simp; done) | (go_simp; rfl)); intro gb192 hg w23 hbox hb; have n0_ := ak_ (ps_ (by repeat (first | (with_reducible first | exact HB.out | apply pa_ | apply pd_ | apply p1_) | exact HB.out)) hb); have n1_ := ak_ (hbox); have n2_ := ak_ ((by rw [hg]; exact (below_size (by repeat (first | (with_reducible first | exact HB.out | apply pa_ | apply pd_ | apply p1_) | exact HB.out))) : w.heap.size ≤ gb192)); have n3_ := ak_ ((by rw [hg]; exact (below_size (by repeat (first | (with_reducible first | exact HB.out | apply pa_ | apply pd_ | apply p1_) | exact HB.out))) : w.heap.size ≤ gb192)); clear HB; have HB := n0_; have BK192 := n1_; have GW192 := n2_; have GE192 := n3_; clear n0_ n1_ n2_ n3_; clear hb hbox hg; have hcz24_0 : w23.cell? ⟨gb192, 0, none⟩ = some (.int .i64 a0_0) := (zc_ BK192.out 0).trans rfl; have hcz24_1 : w23.cell? ⟨gb192, 1, none⟩ = some (.int .i64 a0_1) := (zc_ BK192.out 1).trans rfl; have hcz24_2 : w23.cell? ⟨gb192, 2, none⟩ = some (.int .i64 a0_2) := (zc_ BK192.out 2).trans rfl; have hcz24_3 : w23.cell? ⟨gb192, 3, none⟩ = some (.int .i64 a0_3) := (zc_ BK192.out 3).trans rfl; have hfz24_0 := zf_ BK192.out 0; have hfz24_1 := zf_ BK192.out 1; have hfz24_2 := zf_ BK192.out 2; have hfz24_3 := zf_ BK192.out 3))
  go_ret
  exact ⟨by first | rfl | (simp [errW_none, errW_some] <;> rfl) | (simp [*, errW_none, errW_some] <;> rfl), by repeat (first | (with_reducible first | exact HB.out | apply pa_ | apply pd_ | apply p1_ | refine zs_ ?_ GE192.out) | exact HB.out)⟩

end Go.Proofs.Ytookpfpmobbhiaa.Q
