-- written for this claim by a program of the session
import Derived.Test.YtookpfpmobbhiaaQx0
import Derived.Test.YtookpfpmobbhiaaQx5
namespace Go.Proofs.Ytookpfpmobbhiaa.Q
open Go.RowKit Go.Proofs.YtookpfpmobbhiaaW.PrintWords Go.Proofs.YtookpfpmobbhiaaW.PrintLast Go.Proofs.YtookpfpmobbhiaaW.PrintMore
attribute [local go_sem] max2_int min2_int max_two min_two max_three min_three max_four min_four   -- for this text's walks alone
set_option linter.unusedVariables false
set_option linter.unusedSimpArgs false

/-! ### usufructref25_Emissions: function 11 -/
def usufructref25_Emissions.l0 : Nat → Int → Int → ByteArray → Int → List (S49) → Option (Int)
  | 0, _, _, _, _, _ => none
  | k + 1, x3, x4, x132000, x132001, x132002 => if x4 < (x132002.length : Int) then (if 0 ≤ x4 then ((usufructref01_Add.f x3 ((rd_T49 x132002 x4).f3.f0)).bind fun t133 => ((usufructref01_Add.f t133 ((rd_T49 x132002 x4).f4.f0)).bind fun t135 => ((usufructref01_Add.f t135 2).bind fun t136 => (usufructref25_Emissions.l0 k t136 (wrap64 (x4 + 1)) x132000 x132001 x132002)))) else (none)) else (some x3)
def usufructref25_Emissions.f (k : Nat) (a0_0 : ByteArray) (a0_1 : Int) (l0_2 : List (S49)) : Option (Int) := usufructref25_Emissions.l0 k 0 0 a0_0 a0_1 l0_2
theorem usufructref25_Emissions.mono_l : ∀ k, (∀ y0 y1 y2 y3 y4, LeO (usufructref25_Emissions.l0 k y0 y1 y2 y3 y4) (usufructref25_Emissions.l0 (k + 1) y0 y1 y2 y3 y4))
  | 0 => fun _ _ _ _ _ r h => by simp [usufructref25_Emissions.l0] at h
  | k + 1 => by
    have ih0 := usufructref25_Emissions.mono_l k
    · intro y0 y1 y2 y3 y4
      unfold usufructref25_Emissions.l0
      repeat' first
      | (with_reducible exact ih0 _ _ _ _ _)
      | (with_reducible exact LeO.refl _)
      | (with_reducible exact LeO.none _)
      | (with_reducible refine LeO.ite ?_ ?_)
      | (with_reducible refine LeO.bind ?_ (fun _ => ?_))
      | exact ih0 _ _ _ _ _
      | exact LeO.none _
      | refine LeO.ite ?_ ?_
      | refine LeO.bind ?_ (fun _ => ?_)
theorem usufructref25_Emissions.mono : ∀ a0 a1 a2 k, LeO (usufructref25_Emissions.f k a0 a1 a2) (usufructref25_Emissions.f (k + 1) a0 a1 a2) := by
  intro a0 a1 a2 k
  have ih0 := usufructref25_Emissions.mono_l k
  unfold usufructref25_Emissions.f
  repeat' first
      | (with_reducible exact ih0 _ _ _ _ _)
      | (with_reducible exact LeO.refl _)
      | (with_reducible exact LeO.none _)
      | (with_reducible refine LeO.ite ?_ ?_)
      | (with_reducible refine LeO.bind ?_ (fun _ => ?_))
      | exact ih0 _ _ _ _ _
      | exact LeO.none _
      | refine LeO.ite ?_ ?_
      | refine LeO.bind ?_ (fun _ => ?_)
namespace usufructref25_Emissions
theorem mt_ {α β : Type} {f : α → β} {l : List α} : l.toArray.map f = (l.map f).toArray := List.map_toArray
theorem mc_ {α β : Type} {f : α → β} {a : α} {l : List α} : (a :: l).map f = f a :: l.map f := rfl
theorem mn_ {α β : Type} {f : α → β} : ([] : List α).map f = [] := rfl
abbrev zn_ := @blk_drewN
abbrev zd_ := @blk_drew
abbrev za_ := @blk_alloc
abbrev zf_ := @blk_frozen
abbrev zc_ := @blk_cell
abbrev zs_ := @below_set
abbrev zr_ := @blk_far
abbrev zp_ := @blk_put
abbrev pd_ := @pw_below_drewN
abbrev p1_ := @below_drew1
abbrev pa_ := @below_alloc
abbrev ak_ := @Aside0.mk
abbrev bl_ := @World.block_lt_of_cell?
abbrev ps_ := @below_step
def b_ (n k : Nat) : Array Bool := ((List.range n).map fun i => k.testBit i).toArray
theorem sa_ {α : Type} {l : List α} {i : Nat} {a : α} : l.toArray.setIfInBounds i a = (l.set i a).toArray := List.setIfInBounds_toArray l i a
theorem sz_ {α : Type} {a b : α} {l : List α} : (a :: l).set 0 b = b :: l := rfl
theorem ss_ {α : Type} {a b : α} {l : List α} {n : Nat} : (a :: l).set (n + 1) b = a :: l.set n b := rfl
end usufructref25_Emissions
open usufructref25_Emissions in
set_option maxHeartbeats 8000000 in
set_option maxRecDepth 100000 in
theorem usufructref25_Emissions.calls (k : Nat) (a0_0 : ByteArray) (a0_1 : Int) (A0_2 : Option Addr) (c0_2 : Nat) (l0_2 : List (S49)) (r : Int) (w : World) (hr0_2 : Kd.C k49 w A0_2 l0_2.length l0_2) (hc0_2 : l0_2.length ≤ c0_2) (h : usufructref25_Emissions.f k a0_0 a0_1 l0_2 = some r) :
    Calls Try.prog 11 #[.agg #[.string a0_0, .int .i64 a0_1, .slice A0_2 l0_2.length c0_2]] w fun e w' => e = .returned (.int .i64 r) ∧ Below w.heap.size w w' := by
  have hu28 := Try.underlying28
  have HR0_2 := ak_ hr0_2
  have HC0_2 := ak_ hc0_2
  clear hr0_2 hc0_2
  have HB := ak_ (Below.refl w.heap.size w)
  have H : (usufructref25_Emissions.l0 k 0 0 a0_0 a0_1 l0_2) = some r := h
  clear h
  have H' := ak_ H
  clear H
  go_enter Try.func11, Try.ntmps11
  go_wp2_with (first | ((with_reducible refine gate_dst (N := 1) rfl ?_); refine box_event ?hg (N := 1) ?hd (cs := #[.string a0_0, .int .i64 a0_1, .slice A0_2 l0_2.length c0_2]) (t := 28) ?hr ?_; (case hd => rfl); (case hg => rfl); (case hr => first | (go_simp; done) | (go_simp; rfl)); intro gb131 hg w2 hbox hb; have n0_ := ak_ (ps_ (by repeat (first | (with_reducible first | exact HB.out | apply pa_ | apply pd_ | apply p1_) | exact HB.out)) hb); have n1_ := ak_ (hbox); have n2_ := ak_ ((by rw [hg]; exact (below_size (by repeat (first | (with_reducible first | exact HB.out | apply pa_ | apply pd_ | apply p1_) | exact HB.out))) : w.heap.size ≤ gb131)); have n3_ := ak_ ((by rw [hg]; exact (below_size (by repeat (first | (with_reducible first | exact HB.out | apply pa_ | apply pd_ | apply p1_) | exact HB.out))) : w.heap.size ≤ gb131)); clear HB; have HB := n0_; have BK131 := n1_; have GW131 := n2_; have GE131 := n3_; clear n0_ n1_ n2_ n3_; clear hb hbox hg))
  go_loopg [3, 4] k (fun kq v3 v4 w' => ∃ (x3_1 : Int) (x4_1 : Int), v3 = .int .i64 x3_1 ∧ v4 = .int .i64 x4_1 ∧ Aside0 (usufructref25_Emissions.l0 kq x3_1 x4_1 a0_0 a0_1 l0_2 = some r) ∧ Aside0 (kq ≤ k) ∧ Aside0 (w'.heap[gb131]? = some (.cells #[.string a0_0, .int .i64 a0_1, (.slice A0_2 l0_2.length c0_2)] 28 (0, 0))) ∧ Aside0 (Below w.heap.size w w'))
  case atStart => exact ⟨(0), (0), (by first | rfl | (simp; done) | (simp [*]; done)), (by first | rfl | (simp; done) | (simp [*]; done)), H', ⟨Nat.le_refl _⟩, ⟨by (with_reducible repeat (first | apply zn_ | apply zd_ | apply za_)); exact BK131.out⟩, ⟨by repeat (first | (with_reducible first | exact HB.out | apply pa_ | apply pd_ | apply p1_ | refine zs_ ?_ GE131.out) | exact HB.out)⟩⟩
  case round =>
    clear H'
    try clear c1
    try clear p2
    obtain ⟨x3_1, x4_1, rfl, rfl, HA, HK1, BK131, HB⟩ := hrel
    cases gk with
    | zero => exact absurd HA.out (by simp [usufructref25_Emissions.l0])
    | succ k1 =>
      have H := HA.out
      clear HA
      simp only [usufructref25_Emissions.l0] at H
      by_cases c3 : x4_1 < (l0_2.length : Int)
      · rw [if_pos c3] at H
        have c3b0 : decide (x4_1 < (l0_2.length : Int)) = true := decide_eq_true c3
        clear c3
        by_cases c4 : 0 ≤ x4_1
        · rw [if_pos c4] at H
          have c4b0 : decide (0 ≤ x4_1) = true := decide_eq_true c4
          clear c4
          replace H := Option.bind_eq_some_iff.mp H
          obtain ⟨t133, A50, H⟩ := H
          replace H : ((usufructref01_Add.f t133 ((rd_T49 l0_2 x4_1).f4.f0)).bind fun t135 => ((usufructref01_Add.f t135 2).bind fun t136 => (usufructref25_Emissions.l0 k1 t136 (wrap64 (x4_1 + 1)) a0_0 a0_1 l0_2))) = some r := H
          have A5 := ak_ A50
          clear A50
          replace H := Option.bind_eq_some_iff.mp H
          obtain ⟨t135, A60, H⟩ := H
          replace H : ((usufructref01_Add.f t135 2).bind fun t136 => (usufructref25_Emissions.l0 k1 t136 (wrap64 (x4_1 + 1)) a0_0 a0_1 l0_2)) = some r := H
          have A6 := ak_ A60
          clear A60
          replace H := Option.bind_eq_some_iff.mp H
          obtain ⟨t136, A70, H⟩ := H
          replace H : (usufructref25_Emissions.l0 k1 t136 (wrap64 (x4_1 + 1)) a0_0 a0_1 l0_2) = some r := H
          have A7 := ak_ A70
          clear A70
          have H' := ak_ H
          clear H
          have hcz8_0 : wr.cell? ⟨gb131, 0, none⟩ = some (.string a0_0) := (zc_ BK131.out 0).trans rfl
          have hcz8_1 : wr.cell? ⟨gb131, 1, none⟩ = some (.int .i64 a0_1) := (zc_ BK131.out 1).trans rfl
          have hcz8_2 : wr.cell? ⟨gb131, 2, none⟩ = some (.slice A0_2 l0_2.length c0_2) := (zc_ BK131.out 2).trans rfl
          have hfz8_0 := zf_ BK131.out 0
          have hfz8_1 := zf_ BK131.out 1
          have hfz8_2 := zf_ BK131.out 2
          have p132 : 0 ≤ (x4_1 : Int) := of_decide_eq_true (by assumption)
          have q132 : x4_1 < (l0_2.length : Int) := of_decide_eq_true (by assumption)
          obtain ⟨ad132, e132, hx132_0, hx132_1, hx132_2, hx132_3, hx132_4, hx132_5, hx132_6, hx132_7, hx132_8, hx132_9, hx132_10, hx132_11⟩ := at_T49 HR0_2.out x4_1 p132 q132
          cases e132
          replace hx132_0 := (HB.out.cell (bl_ w _ hx132_0)).trans hx132_0
          replace hx132_1 := (HB.out.cell (bl_ w _ hx132_1)).trans hx132_1
          replace hx132_2 := (HB.out.cell (bl_ w _ hx132_2)).trans hx132_2
          replace hx132_3 := (HB.out.cell (bl_ w _ hx132_3)).trans hx132_3
          replace hx132_4 := (HB.out.cell (bl_ w _ hx132_4)).trans hx132_4
          replace hx132_5 := (HB.out.cell (bl_ w _ hx132_5)).trans hx132_5
          replace hx132_6 := (HB.out.cell (bl_ w _ hx132_6)).trans hx132_6
          replace hx132_7 := (HB.out.cell (bl_ w _ hx132_7)).trans hx132_7
          replace hx132_8 := (HB.out.cell (bl_ w _ hx132_8)).trans hx132_8
          replace hx132_9 := (HB.out.cell (bl_ w _ hx132_9)).trans hx132_9
          replace hx132_10 := (HB.out.cell (bl_ w _ hx132_10)).trans hx132_10
          replace hx132_11 := (HB.out.cell (bl_ w _ hx132_11)).trans hx132_11
          replace p132 := eq_true p132
          replace q132 := eq_true q132
          go_wp2_with (first | ((with_reducible refine gate_callee (f := 21) rfl ?_); refine goesL_ (some 20) rfl rfl Try.func21 (by kernel_rfl) rfl #[.int .i64 x3_1, .int .i64 ((rd_T49 l0_2 x4_1).f3.f0)] rfl (by simp only [mt_, mc_, mn_] <;> rfl) ?_; (with_reducible refine (usufructref01_Add.calls x3_1 ((rd_T49 l0_2 x4_1).f3.f0) t133 _ A5.out).mono ?_); rintro e w' ⟨rfl, ⟨nd, rfl⟩⟩; refine ⟨_, rfl, ?_⟩; have p134 : 0 ≤ (x4_1 : Int) := of_decide_eq_true (by assumption); have q134 : x4_1 < (l0_2.length : Int) := of_decide_eq_true (by assumption); obtain ⟨ad134, e134, hx134_0, hx134_1, hx134_2, hx134_3, hx134_4, hx134_5, hx134_6, hx134_7, hx134_8, hx134_9, hx134_10, hx134_11⟩ := at_T49 HR0_2.out x4_1 p134 q134; obtain rfl : ad132 = ad134 := (by injection e134); replace hx134_0 := (HB.out.cell (bl_ w _ hx134_0)).trans hx134_0; replace hx134_1 := (HB.out.cell (bl_ w _ hx134_1)).trans hx134_1; replace hx134_2 := (HB.out.cell (bl_ w _ hx134_2)).trans hx134_2; replace hx134_3 := (HB.out.cell (bl_ w _ hx134_3)).trans hx134_3; replace hx134_4 := (HB.out.cell (bl_ w _ hx134_4)).trans hx134_4; replace hx134_5 := (HB.out.cell (bl_ w _ hx134_5)).trans hx134_5; replace hx134_6 := (HB.out.cell (bl_ w _ hx134_6)).trans hx134_6; replace hx134_7 := (HB.out.cell (bl_ w _ hx134_7)).trans hx134_7; replace hx134_8 := (HB.out.cell (bl_ w _ hx134_8)).trans hx134_8; replace hx134_9 := (HB.out.cell (bl_ w _ hx134_9)).trans hx134_9; replace hx134_10 := (HB.out.cell (bl_ w _ hx134_10)).trans hx134_10; replace hx134_11 := (HB.out.cell (bl_ w _ hx134_11)).trans hx134_11; replace p134 := eq_true p134; replace q134 := eq_true q134) | ((with_reducible refine gate_callee (f := 21) rfl ?_); refine goesL_ (some 29) rfl rfl Try.func21 (by kernel_rfl) rfl #[.int .i64 t133, .int .i64 ((rd_T49 l0_2 x4_1).f4.f0)] rfl (by simp only [mt_, mc_, mn_] <;> rfl) ?_; (with_reducible refine (usufructref01_Add.calls t133 ((rd_T49 l0_2 x4_1).f4.f0) t135 _ A6.out).mono ?_); rintro e w' ⟨rfl, ⟨nd, rfl⟩⟩; refine ⟨_, rfl, ?_⟩) | ((with_reducible refine gate_callee (f := 21) rfl ?_); refine goesL_ (some 31) rfl rfl Try.func21 (by kernel_rfl) rfl #[.int .i64 t135, .int .i64 2] rfl (by simp only [mt_, mc_, mn_] <;> rfl) ?_; (with_reducible refine (usufructref01_Add.calls t135 2 t136 _ A7.out).mono ?_); rintro e w' ⟨rfl, ⟨nd, rfl⟩⟩; refine ⟨_, rfl, ?_⟩))
          go_roundg k1
          case measure => have := HK1.out; omega
          case rel => exact ⟨(t136), (wrap64 (x4_1 + 1)), (by first | rfl | (simp; done) | (simp [*]; done)), (by first | rfl | (simp; done) | (simp [*]; done)), H', ⟨by have := HK1.out; omega⟩, ⟨by (with_reducible repeat (first | apply zn_ | apply zd_ | apply za_)); exact BK131.out⟩, ⟨by repeat (first | (with_reducible first | exact HB.out | apply pa_ | apply pd_ | apply p1_ | refine zs_ ?_ GE131.out) | exact HB.out)⟩⟩
        rw [if_neg c4] at H
        exact absurd H (by simp)
      rw [if_neg c3] at H
      have c3b0 : decide (x4_1 < (l0_2.length : Int)) = false := decide_eq_false c3
      clear c3
      obtain rfl := Option.some.inj H
      have hcz9_0 : wr.cell? ⟨gb131, 0, none⟩ = some (.string a0_0) := (zc_ BK131.out 0).trans rfl
      have hcz9_1 : wr.cell? ⟨gb131, 1, none⟩ = some (.int .i64 a0_1) := (zc_ BK131.out 1).trans rfl
      have hcz9_2 : wr.cell? ⟨gb131, 2, none⟩ = some (.slice A0_2 l0_2.length c0_2) := (zc_ BK131.out 2).trans rfl
      have hfz9_0 := zf_ BK131.out 0
      have hfz9_1 := zf_ BK131.out 1
      have hfz9_2 := zf_ BK131.out 2
      go_wp2
      go_ret
      exact ⟨by first | rfl | (simp [errW_none, errW_some] <;> rfl) | (simp [*, errW_none, errW_some] <;> rfl), by repeat (first | (with_reducible first | exact HB.out | apply pa_ | apply pd_ | apply p1_ | refine zs_ ?_ GE131.out) | exact HB.out)⟩

end Go.Proofs.Ytookpfpmobbhiaa.Q
