-- written for this claim by a program of the session
import Derived.Test.YtookpfpmobbhiaaQx0
namespace Go.Proofs.Ytookpfpmobbhiaa.Q
open Go.RowKit Go.Proofs.YtookpfpmobbhiaaW.PrintWords Go.Proofs.YtookpfpmobbhiaaW.PrintLast Go.Proofs.YtookpfpmobbhiaaW.PrintMore
attribute [local go_sem] max2_int min2_int max_two min_two max_three min_three max_four min_four   -- for this text's walks alone
set_option linter.unusedVariables false
set_option linter.unusedSimpArgs false

/-! ### usufructref16_Def: function 32 -/
def usufructref16_Def.l0 : Nat → ByteArray → Int → List (S28) → List (S44) → Int → Option (Int)
  | 0, _, _, _, _, _ => none
  | k + 1, x1, x5, x151000, x151001, x151002 => if x5 < (x151000.length : Int) then (if 0 ≤ x5 then (if ((rd_T28 x151000 x5).f0).toList = x1.toList then (some x5) else (usufructref16_Def.l0 k x1 (wrap64 (x5 + 1)) x151000 x151001 x151002)) else (none)) else (some (-1))
def usufructref16_Def.f (k : Nat) (l0_0 : List (S28)) (l0_1 : List (S44)) (a0_2 : Int) (a1 : ByteArray) : Option (Int) := usufructref16_Def.l0 k a1 0 l0_0 l0_1 a0_2
theorem usufructref16_Def.mono_l : ∀ k, (∀ y0 y1 y2 y3 y4, LeO (usufructref16_Def.l0 k y0 y1 y2 y3 y4) (usufructref16_Def.l0 (k + 1) y0 y1 y2 y3 y4))
  | 0 => fun _ _ _ _ _ r h => by simp [usufructref16_Def.l0] at h
  | k + 1 => by
    have ih0 := usufructref16_Def.mono_l k
    · intro y0 y1 y2 y3 y4
      unfold usufructref16_Def.l0
      repeat' first
      | (with_reducible exact ih0 _ _ _ _ _)
      | (with_reducible exact LeO.refl _)
      | (with_reducible exact LeO.none _)
      | (with_reducible refine LeO.ite ?_ ?_)
      | (with_reducible refine LeO.bind ?_ (fun _ => ?_))
      | exact ih0 _ _ _ _ _
      | exact LeO.none _
      | refine LeO.ite ?_ ?_
      | refine LeO.bind ?_ (fun _ => ?_)
theorem usufructref16_Def.mono : ∀ a0 a1 a2 a3 k, LeO (usufructref16_Def.f k a0 a1 a2 a3) (usufructref16_Def.f (k + 1) a0 a1 a2 a3) := by
  intro a0 a1 a2 a3 k
  have ih0 := usufructref16_Def.mono_l k
  unfold usufructref16_Def.f
  repeat' first
      | (with_reducible exact ih0 _ _ _ _ _)
      | (with_reducible exact LeO.refl _)
      | (with_reducible exact LeO.none _)
      | (with_reducible refine LeO.ite ?_ ?_)
      | (with_reducible refine LeO.bind ?_ (fun _ => ?_))
      | exact ih0 _ _ _ _ _
      | exact LeO.none _
      | refine LeO.ite ?_ ?_
      | refine LeO.bind ?_ (fun _ => ?_)
namespace usufructref16_Def
theorem mt_ {α β : Type} {f : α → β} {l : List α} : l.toArray.map f = (l.map f).toArray := List.map_toArray
theorem mc_ {α β : Type} {f : α → β} {a : α} {l : List α} : (a :: l).map f = f a :: l.map f := rfl
theorem mn_ {α β : Type} {f : α → β} : ([] : List α).map f = [] := rfl
abbrev zn_ := @blk_drewN
abbrev zd_ := @blk_drew
abbrev za_ := @blk_alloc
abbrev zf_ := @blk_frozen
abbrev zc_ := @blk_cell
abbrev zs_ := @below_set
abbrev zr_ := @blk_far
abbrev zp_ := @blk_put
abbrev pd_ := @pw_below_drewN
abbrev p1_ := @below_drew1
abbrev pa_ := @below_alloc
abbrev ak_ := @Aside0.mk
abbrev bl_ := @World.block_lt_of_cell?
abbrev ps_ := @below_step
def b_ (n k : Nat) : Array Bool := ((List.range n).map fun i => k.testBit i).toArray
theorem sa_ {α : Type} {l : List α} {i : Nat} {a : α} : l.toArray.setIfInBounds i a = (l.set i a).toArray := List.setIfInBounds_toArray l i a
theorem sz_ {α : Type} {a b : α} {l : List α} : (a :: l).set 0 b = b :: l := rfl
theorem ss_ {α : Type} {a b : α} {l : List α} {n : Nat} : (a :: l).set (n + 1) b = a :: l.set n b := rfl
end usufructref16_Def
open usufructref16_Def in
set_option maxHeartbeats 8000000 in
set_option maxRecDepth 100000 in
theorem usufructref16_Def.calls (k : Nat) (A0_0 : Option Addr) (c0_0 : Nat) (l0_0 : List (S28)) (A0_1 : Option Addr) (c0_1 : Nat) (l0_1 : List (S44)) (a0_2 : Int) (a1 : ByteArray) (r : Int) (w : World) (hr0_0 : Kd.C k28 w A0_0 l0_0.length l0_0) (hc0_0 : l0_0.length ≤ c0_0) (hr0_1 : Kd.C k44 w A0_1 l0_1.length l0_1) (hc0_1 : l0_1.length ≤ c0_1) (h : usufructref16_Def.f k l0_0 l0_1 a0_2 a1 = some r) :
    Calls Try.prog 32 #[.agg #[.slice A0_0 l0_0.length c0_0, .slice A0_1 l0_1.length c0_1, .int .i64 a0_2], .string a1] w fun e w' => e = .returned (.int .i64 r) ∧ Below w.heap.size w w' := by
  have hu25 := Try.underlying25
  have HR0_0 := ak_ hr0_0
  have HC0_0 := ak_ hc0_0
  clear hr0_0 hc0_0
  have HR0_1 := ak_ hr0_1
  have HC0_1 := ak_ hc0_1
  clear hr0_1 hc0_1
  have HB := ak_ (Below.refl w.heap.size w)
  have H : (usufructref16_Def.l0 k a1 0 l0_0 l0_1 a0_2) = some r := h
  clear h
  have H' := ak_ H
  clear H
  go_enter Try.func32, Try.ntmps32
  go_wp2_with (first | ((with_reducible refine gate_dst (N := 2) rfl ?_); refine box_event ?hg (N := 2) ?hd (cs := #[.slice A0_0 l0_0.length c0_0, .slice A0_1 l0_1.length c0_1, .int .i64 a0_2]) (t := 25) ?hr ?_; (case hd => rfl); (case hg => rfl); (case hr => first | (go_simp; done) | (go_simp; rfl)); intro gb150 hg w3 hbox hb; have n0_ := ak_ (ps_ (by repeat (first | (with_reducible first | exact HB.out | apply pa_ | apply pd_ | apply p1_) | exact HB.out)) hb); have n1_ := ak_ (hbox); have n2_ := ak_ ((by rw [hg]; exact (below_size (by repeat (first | (with_reducible first | exact HB.out | apply pa_ | apply pd_ | apply p1_) | exact HB.out))) : w.heap.size ≤ gb150)); have n3_ := ak_ ((by rw [hg]; exact (below_size (by repeat (first | (with_reducible first | exact HB.out | apply pa_ | apply pd_ | apply p1_) | exact HB.out))) : w.heap.size ≤ gb150)); clear HB; have HB := n0_; have BK150 := n1_; have GW150 := n2_; have GE150 := n3_; clear n0_ n1_ n2_ n3_; clear hb hbox hg))
  go_loopg [5] k (fun kq v5 w' => ∃ (x5_1 : Int), v5 = .int .i64 x5_1 ∧ Aside0 (usufructref16_Def.l0 kq a1 x5_1 l0_0 l0_1 a0_2 = some r) ∧ Aside0 (kq ≤ k) ∧ Aside0 (w'.heap[gb150]? = some (.cells #[(.slice A0_0 l0_0.length c0_0), (.slice A0_1 l0_1.length c0_1), .int .i64 a0_2] 25 (0, 0))) ∧ Aside0 (Below w.heap.size w w'))
  case atStart => exact ⟨(0), (by first | rfl | (simp; done) | (simp [*]; done)), H', ⟨Nat.le_refl _⟩, ⟨by (with_reducible repeat (first | apply zn_ | apply zd_ | apply za_)); exact BK150.out⟩, ⟨by repeat (first | (with_reducible first | exact HB.out | apply pa_ | apply pd_ | apply p1_ | refine zs_ ?_ GE150.out) | exact HB.out)⟩⟩
  case round =>
    clear H'
    try clear p2
    try clear c3
    obtain ⟨x5_1, rfl, HA, HK1, BK150, HB⟩ := hrel
    cases gk with
    | zero => exact absurd HA.out (by simp [usufructref16_Def.l0])
    | succ k1 =>
      have H := HA.out
      clear HA
      simp only [usufructref16_Def.l0] at H
      by_cases c4 : x5_1 < (l0_0.length : Int)
      · rw [if_pos c4] at H
        have c4b0 : decide (x5_1 < (l0_0.length : Int)) = true := decide_eq_true c4
        clear c4
        by_cases c5 : 0 ≤ x5_1
        · rw [if_pos c5] at H
          have c5b0 : decide (0 ≤ x5_1) = true := decide_eq_true c5
          clear c5
          by_cases c6 : ((rd_T28 l0_0 x5_1).f0).toList = a1.toList
          · rw [if_pos c6] at H
            have c6b0 : (((rd_T28 l0_0 x5_1).f0).toList == a1.toList) = true := beq_iff_eq.mpr c6
            have c6b1 : (((rd_T28 l0_0 x5_1).f0).toList != a1.toList) = false := bne_eq_false_iff_eq.mpr c6
            clear c6
            obtain rfl := Option.some.inj H
            have hcz7_0 : wr.cell? ⟨gb150, 0, none⟩ = some (.slice A0_0 l0_0.length c0_0) := (zc_ BK150.out 0).trans rfl
            have hcz7_1 : wr.cell? ⟨gb150, 1, none⟩ = some (.slice A0_1 l0_1.length c0_1) := (zc_ BK150.out 1).trans rfl
            have hcz7_2 : wr.cell? ⟨gb150, 2, none⟩ = some (.int .i64 a0_2) := (zc_ BK150.out 2).trans rfl
            have hfz7_0 := zf_ BK150.out 0
            have hfz7_1 := zf_ BK150.out 1
            have hfz7_2 := zf_ BK150.out 2
            have p151 : 0 ≤ (x5_1 : Int) := of_decide_eq_true (by assumption)
            have q151 : x5_1 < (l0_0.length : Int) := of_decide_eq_true (by assumption)
            obtain ⟨ad151, A151_2, c151_2, e151, hx151_0, hx151_1, hx151_2, hl151_2, hi151_2⟩ := at_T28 HR0_0.out x5_1 p151 q151
            cases e151
            replace hx151_0 := (HB.out.cell (bl_ w _ hx151_0)).trans hx151_0
            replace hx151_1 := (HB.out.cell (bl_ w _ hx151_1)).trans hx151_1
            replace hx151_2 := (HB.out.cell (bl_ w _ hx151_2)).trans hx151_2
            have HR151_2 := ak_ hi151_2
            have HC151_2 := ak_ hl151_2
            clear hi151_2 hl151_2
            replace p151 := eq_true p151
            replace q151 := eq_true q151
            go_wp2
            go_ret
            exact ⟨by first | rfl | (simp [errW_none, errW_some] <;> rfl) | (simp [*, errW_none, errW_some] <;> rfl), by repeat (first | (with_reducible first | exact HB.out | apply pa_ | apply pd_ | apply p1_ | refine zs_ ?_ GE150.out) | exact HB.out)⟩
          rw [if_neg c6] at H
          have c6b0 : (((rd_T28 l0_0 x5_1).f0).toList == a1.toList) = false := beq_eq_false_iff_ne.mpr c6
          have c6b1 : (((rd_T28 l0_0 x5_1).f0).toList != a1.toList) = true := bne_iff_ne.mpr c6
          have H' := ak_ H
          clear H
          have hcz8_0 : wr.cell? ⟨gb150, 0, none⟩ = some (.slice A0_0 l0_0.length c0_0) := (zc_ BK150.out 0).trans rfl
          have hcz8_1 : wr.cell? ⟨gb150, 1, none⟩ = some (.slice A0_1 l0_1.length c0_1) := (zc_ BK150.out 1).trans rfl
          have hcz8_2 : wr.cell? ⟨gb150, 2, none⟩ = some (.int .i64 a0_2) := (zc_ BK150.out 2).trans rfl
          have hfz8_0 := zf_ BK150.out 0
          have hfz8_1 := zf_ BK150.out 1
          have hfz8_2 := zf_ BK150.out 2
          have p151 : 0 ≤ (x5_1 : Int) := of_decide_eq_true (by assumption)
          have q151 : x5_1 < (l0_0.length : Int) := of_decide_eq_true (by assumption)
          obtain ⟨ad151, A151_2, c151_2, e151, hx151_0, hx151_1, hx151_2, hl151_2, hi151_2⟩ := at_T28 HR0_0.out x5_1 p151 q151
          cases e151
          replace hx151_0 := (HB.out.cell (bl_ w _ hx151_0)).trans hx151_0
          replace hx151_1 := (HB.out.cell (bl_ w _ hx151_1)).trans hx151_1
          replace hx151_2 := (HB.out.cell (bl_ w _ hx151_2)).trans hx151_2
          have HR151_2 := ak_ hi151_2
          have HC151_2 := ak_ hl151_2
          clear hi151_2 hl151_2
          replace p151 := eq_true p151
          replace q151 := eq_true q151
          go_wp2
          go_roundg k1
          case measure => have := HK1.out; omega
          case rel => exact ⟨(wrap64 (x5_1 + 1)), (by first | rfl | (simp; done) | (simp [*]; done)), H', ⟨by have := HK1.out; omega⟩, ⟨by (with_reducible repeat (first | apply zn_ | apply zd_ | apply za_)); exact BK150.out⟩, ⟨by repeat (first | (with_reducible first | exact HB.out | apply pa_ | apply pd_ | apply p1_ | refine zs_ ?_ GE150.out) | exact HB.out)⟩⟩
        rw [if_neg c5] at H
        exact absurd H (by simp)
      rw [if_neg c4] at H
      have c4b0 : decide (x5_1 < (l0_0.length : Int)) = false := decide_eq_false c4
      clear c4
      obtain rfl := Option.some.inj H
      have hcz9_0 : wr.cell? ⟨gb150, 0, none⟩ = some (.slice A0_0 l0_0.length c0_0) := (zc_ BK150.out 0).trans rfl
      have hcz9_1 : wr.cell? ⟨gb150, 1, none⟩ = some (.slice A0_1 l0_1.length c0_1) := (zc_ BK150.out 1).trans rfl
      have hcz9_2 : wr.cell? ⟨gb150, 2, none⟩ = some (.int .i64 a0_2) := (zc_ BK150.out 2).trans rfl
      have hfz9_0 := zf_ BK150.out 0
      have hfz9_1 := zf_ BK150.out 1
      have hfz9_2 := zf_ BK150.out 2
      go_wp2
      go_ret
      exact ⟨by first | rfl | (simp [errW_none, errW_some] <;> rfl) | (simp [*, errW_none, errW_some] <;> rfl), by repeat (first | (with_reducible first | exact HB.out | apply pa_ | apply pd_ | apply p1_ | refine zs_ ?_ GE150.out) | exact HB.out)⟩

end Go.Proofs.Ytookpfpmobbhiaa.Q
