/- bound.Emissions: a sum over an iterator over a definition's steps. -/
import Derived.Test.YtookpfpmobbhiaaGBoundSum
import Derived.Sort.CutIn
namespace Go.Proofs.Ytookpfpmobbhiaa.Q
open Go.RowKit Go.Shelf Go.Proofs.YtookpfpmobbhiaaW.PrintWords Go.Proofs.YtookpfpmobbhiaaW.PrintLast Go.Proofs.YtookpfpmobbhiaaW.PrintMore
set_option linter.unusedVariables false
set_option linter.unusedSimpArgs false
attribute [local go_sem] Oper.semAt_some

def emL (l : List S49) : List Int := l.flatMap fun s => [addT s.f3.f0 s.f4.f0, 2]
theorem emL_succ (l : List S49) (j : Nat) (h : j < l.length) : emL (l.take (j + 1)) = emL (l.take j) ++ [addT (rd_T49 l (j : Int)).f3.f0 (rd_T49 l (j : Int)).f4.f0] ++ [2] := by
  have e : rd_T49 l (j : Int) = l[j] := by
    unfold rd_T49
    rw [Int.toNat_natCast, List.getD_eq_getElem?_getD, List.getElem?_eq_getElem h]
    rfl
  rw [e]
  unfold emL
  rw [List.take_succ_eq_append_getElem h, List.flatMap_append]
  simp
theorem emL_len (l : List S49) : (emL l).length = 2 * l.length := by
  unfold emL
  induction l with
  | nil => rfl
  | cons a l ih => rw [List.flatMap_cons, List.length_append, ih]; simp; omega
theorem emL_prefix (l : List S49) (j : Nat) : emL (l.take j) <+: emL l := by
  refine ⟨emL (l.drop j), ?_⟩
  conv => rhs; rw [← List.take_append_drop j l]
  unfold emL
  rw [List.flatMap_append]

set_option maxRecDepth 100000 in
set_option maxHeartbeats 4000000 in
theorem emis_stops (b : Nat) (nm : ByteArray) (dl : Int) (A : Option Addr) (c : Nat) (l0 : List S49) (w : World) (hb : w.heap[b]? = some (.cells #[.string nm, .int .i64 dl, .slice A l0.length c] 28 (0, 0))) (hr : Kd.C k49 w A l0.length l0) (hl : l0.length < 1000000) :
    SeqStopsK Fence.wide 7 Try.prog 24 #[.pointer (some ⟨b, 0, none⟩)] (fun x : Int => #[Value.int .i64 x]) (Below w.heap.size) (fun ys => ys = emL l0) (fun pre => pre <+: emL l0) (2 * l0.length) w := fun l J Jx W hW hJ hJx hY h0 => by
  have z2 : W.cell? ⟨b, 2, none⟩ = some (.slice A l0.length c) := (hW.cell (p := ⟨b, 2, none⟩) (blk_lt hb)).trans ((blk_cell hb 2).trans rfl)
  refine callsIn_of_wp Try.func24 rfl trivial ?_ rfl
  simp only [Try.ntmps24, List.size_toArray, List.length_cons, List.length_nil, Nat.reduceAdd, Nat.reduceSub, Array.replicate_succ, Array.replicate_zero, List.push_toArray, List.append_toArray, List.nil_append, List.cons_append]
  gi_wp2
  gi_loopw [8] (fun i wr => ∃ k : Nat, k ≤ l0.length ∧ i = .int .i64 k ∧ J (emL (l0.take k)) wr ∧ Aside0 (Below w.heap.size w wr)) (fun i _ => l0.length - (intOf i).toNat)
  case atStart => exact ⟨0, Nat.zero_le _, rfl, h0, ⟨hW⟩⟩
  case round =>
    obtain ⟨k, hk, rfl, hJs, HW⟩ := hrel
    by_cases hlt : k < l0.length
    · have HX := Aside0.mk (emL_succ l0 k hlt)
      obtain ⟨ad, e, x0, x1, x2, x3, x4, x5, x6, x7, x8, x9, x10, x11⟩ := at_T49 hr (k : Int) (by omega) (by omega)
      cases e
      replace x0 := (HW.out.cell (World.block_lt_of_cell? w _ x0)).trans x0
      replace x1 := (HW.out.cell (World.block_lt_of_cell? w _ x1)).trans x1
      replace x2 := (HW.out.cell (World.block_lt_of_cell? w _ x2)).trans x2
      replace x3 := (HW.out.cell (World.block_lt_of_cell? w _ x3)).trans x3
      replace x4 := (HW.out.cell (World.block_lt_of_cell? w _ x4)).trans x4
      replace x5 := (HW.out.cell (World.block_lt_of_cell? w _ x5)).trans x5
      replace x6 := (HW.out.cell (World.block_lt_of_cell? w _ x6)).trans x6
      replace x7 := (HW.out.cell (World.block_lt_of_cell? w _ x7)).trans x7
      replace x8 := (HW.out.cell (World.block_lt_of_cell? w _ x8)).trans x8
      replace x9 := (HW.out.cell (World.block_lt_of_cell? w _ x9)).trans x9
      replace x10 := (HW.out.cell (World.block_lt_of_cell? w _ x10)).trans x10
      replace x11 := (HW.out.cell (World.block_lt_of_cell? w _ x11)).trans x11
      generalize rd_T49 l0 (k : Int) = x at *
      obtain ⟨i, hi⟩ : ∃ i : Int, (k : Int) = i := ⟨_, rfl⟩
      have HI := Aside0.mk hi
      have hp : (0 ≤ i) = True := eq_true (by omega)
      have hq : (i < (l0.length : Int)) = True := eq_true (by omega)
      have hqd : decide (i < (l0.length : Int)) = true := decide_eq_true (by omega)
      have HK := Aside0.mk (show wrap64 (i + 1) = ((k + 1 : Nat) : Int) by unfold wrap64; omega)
      rw [hi] at x0 x1 x2 x3 x4 x5 x6 x7 x8 x9 x10 x11 ⊢
      clear hi
      gi_upto_region 3 with (fail)
      have b3 := blk_new wr (.cells #[.string x.f0, .string x.f1, .int .i64 x.f2, .int .i64 x.f3.f0, .int .i64 x.f3.f1, .int .i64 x.f3.f2, .int .i64 x.f3.f3, .int .i64 x.f4.f0, .int .i64 x.f4.f1, .int .i64 x.f4.f2, .int .i64 x.f4.f3, .int .i64 x.f5] 49)
      have hb3 : Below wr.heap.size wr (wr.alloc (.cells #[.string x.f0, .string x.f1, .int .i64 x.f2, .int .i64 x.f3.f0, .int .i64 x.f3.f1, .int .i64 x.f3.f2, .int .i64 x.f3.f3, .int .i64 x.f4.f0, .int .i64 x.f4.f1, .int .i64 x.f4.f2, .int .i64 x.f4.f3, .int .i64 x.f5] 49)) := (Below.refl _ wr).alloc (Nat.le_refl _) _
      have J3 := hJ _ wr _ none hJs (grown_of_below hb3 none) (fun r h => by cases h)
      have HW3 := Aside0.mk (HW.out.trans (hb3.mono HW.out.size))
      clear hb3 hJs x0 x1 x2 x3 x4 x5 x6 x7 x8 x9 x10 x11 z2 HW
      generalize wr.alloc (.cells #[.string x.f0, .string x.f1, .int .i64 x.f2, .int .i64 x.f3.f0, .int .i64 x.f3.f1, .int .i64 x.f3.f2, .int .i64 x.f3.f3, .int .i64 x.f4.f0, .int .i64 x.f4.f1, .int .i64 x.f4.f2, .int .i64 x.f4.f3, .int .i64 x.f5] 49) = W3 at *
      generalize wr.heap.size = q at *
      have y3 : W3.cell? ⟨q, 3, none⟩ = some (.int .i64 x.f3.f0) := (blk_cell b3 3).trans rfl
      have y7 : W3.cell? ⟨q, 7, none⟩ = some (.int .i64 x.f4.f0) := (blk_cell b3 7).trans rfl
      have HLEN := Aside0.mk (show (emL (l0.take k)).length + 1 < 2 * l0.length by rw [emL_len, List.length_take]; omega)
      have hfn : Fence.wide.fn 25 := trivial
      gi_wp2_with (gi_at_call 25; refine (callsIn_wide.2 (tick_Add.calls _ _ _ _ (addT_f _ _))).mono ?_; rintro e w4 ⟨rfl, hb⟩; have J4 := hJ _ W3 w4 none J3 (grown_of_below hb none) (fun r h => by cases h); have HW4 := Aside0.mk (HW3.out.trans (hb.mono HW3.out.size)); obtain ⟨fn, tmps, assign, body, hy, hR⟩ := hY _ (addT x.f3.f0 x.f4.f0) w4 J4 (by have := HLEN.out; omega); (try dsimp only at hy); clear hb J4)
      refine hR.mono ?_
      rintro e w5 (⟨rfl, J5, hk5⟩ | ⟨rfl, Jx5⟩)
      · have HW5 := Aside0.mk (HW4.out.trans hk5)
        obtain ⟨fn2, tmps2, assign2, body2, hy2, hR2⟩ := hY _ 2 w5 J5 (by have := HLEN.out; rw [List.length_append]; simpa using this)
        try dsimp only at hy2
        gi_wp2
        refine hR2.mono ?_
        rintro e w6 (⟨rfl, J6, hk6⟩ | ⟨rfl, Jx6⟩)
        · gi_wp2
          go_roundw
          case rel => exact ⟨k + 1, by omega, by rw [HK.out], by rw [HX.out]; exact J6, ⟨HW5.out.trans hk6⟩⟩
          case measure => have := HI.out; simp [intOf, HK.out]; omega
        · gi_wp2
          refine bodyPost_ret (results_none rfl _ _ _) rfl ?_
          exact ⟨⟨_, rfl⟩, .inr ⟨_, by rw [← HX.out]; exact emL_prefix l0 (k + 1), Jx6⟩⟩
      · gi_wp2
        refine ⟨fun _ h => (by cases h), ?_⟩
        gi_wp2
        refine bodyPost_ret (results_none rfl _ _ _) rfl ?_
        exact ⟨⟨_, rfl⟩, .inr ⟨_, List.IsPrefix.trans (by rw [HX.out]; exact List.prefix_append _ _) (emL_prefix l0 (k + 1)), Jx5⟩⟩
    · obtain rfl : k = l0.length := by omega
      have hd : decide ((l0.length : Int) < (l0.length : Int)) = false := decide_eq_false (by omega)
      gi_wp2
      go_end0
      exact ⟨⟨_, rfl⟩, .inl ⟨_, rfl, by rw [List.take_length] at hJs; exact hJs⟩⟩

def bound_Emissions.f (a0_0 : ByteArray) (a0_1 : Int) (l0_2 : List S49) : Option Int := if l0_2.length < 1000000 then some (sumT (emL l0_2)) else none
set_option maxRecDepth 100000 in
set_option maxHeartbeats 2000000 in
theorem bound_Emissions.calls (a0_0 : ByteArray) (a0_1 : Int) (A0_2 : Option Addr) (c0_2 : Nat) (l0_2 : List S49) (r : Int) (w : World) (hr0_2 : Kd.C k49 w A0_2 l0_2.length l0_2) (hc0_2 : l0_2.length ≤ c0_2) (h : bound_Emissions.f a0_0 a0_1 l0_2 = some r) :
    Calls Try.prog 13 #[.agg #[.string a0_0, .int .i64 a0_1, .slice A0_2 l0_2.length c0_2]] w fun e w' => e = .returned (.int .i64 r) ∧ Below w.heap.size w w' := by
  unfold bound_Emissions.f at h
  by_cases hl : l0_2.length < 1000000
  · rw [if_pos hl] at h
    obtain rfl := Option.some.inj h
    have HL := Aside0.mk hl
    have HR := Aside0.mk hr0_2
    clear hl hr0_2 h
    go_enter Try.func13, Try.ntmps13
    go_wp2_with (first | ((with_reducible refine gate_dst (N := 1) rfl ?_); refine box_event ?hg (N := 1) ?hd (cs := #[.string a0_0, .int .i64 a0_1, .slice A0_2 l0_2.length c0_2]) (t := 28) ?hr ?_; (case hd => rfl); (case hg => rfl); (case hr => first | (go_simp; done) | (go_simp; rfl)); intro gb hg w1 hbox hb; have HB1 := Aside0.mk hb; have BX := Aside0.mk hbox; clear hb hbox hg) | (go_at_call 23; refine (bound_sum.calls 24 #[.pointer (some ⟨gb, 0, none⟩)] (enters_of Try.func24 (by kernel_rfl) rfl) (emL l0_2) (2 * l0_2.length) _ (emis_stops gb a0_0 a0_1 A0_2 c0_2 l0_2 _ BX.out (Kd.C_below HR.out HB1.out) HL.out)).mono ?_; rintro e w2 ⟨rfl, hb⟩; have HB2 := Aside0.mk hb; clear hb))
    go_ret
    exact ⟨rfl, below_step HB1.out HB2.out⟩
  · rw [if_neg hl] at h
    cases h
end Go.Proofs.Ytookpfpmobbhiaa.Q
