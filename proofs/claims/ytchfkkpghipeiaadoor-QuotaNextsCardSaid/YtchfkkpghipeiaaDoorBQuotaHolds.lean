/- QuotaHolds, walked. -/
import Derived.Test.YtchfkkpghipeiaaDoorBQuota
namespace Go.Proofs.YtchfkkpghipeiaaDoor.Q
open Go.RowKit Go.Shelf Go.Proofs.YtchfkkpghipeiaaDoorW.PrintWords Go.Proofs.YtchfkkpghipeiaaDoorW.PrintLast Go.Proofs.YtchfkkpghipeiaaDoorW.PrintMore
set_option linter.unusedVariables false
set_option linter.unusedSimpArgs false

theorem newR_one (q : S23) : newR [q] = if rightB q = true then (-1, 0) else (0, 3) := by
  unfold newR
  rw [if_neg (by simp), newAt]
  by_cases h : rightB q = true
  · rw [if_pos h, if_pos h, if_neg (by simp [firstI]), newAt]
  · rw [if_neg h, if_neg h]
theorem read_one (W : World) (q : S23) : Kd.C k23 (W.alloc (.cells #[.string q.f0, .int .i64 q.f1, .int .i64 q.f2] 23)) (some ⟨W.heap.size, 0, none⟩) [q].length [q] := by
  refine ⟨rfl, by simp, fun _ => ⟨_, rfl, fun j p hj => ?_⟩⟩
  cases j with
  | succ j => cases hj
  | zero =>
    cases hj
    refine ⟨_, rfl, k23_mk _ q, fun j u hj => ?_⟩
    have hc := fun i => blk_cell (blk_new W (.cells #[.string q.f0, .int .i64 q.f1, .int .i64 q.f2] 23)) i
    have e : ((⟨W.heap.size, 0, none⟩ : Addr).add (0 * k23.sz + j)) = ⟨W.heap.size, j, none⟩ := by rw [Nat.zero_mul, Nat.zero_add, Addr.add_lit, Nat.zero_add]
    rw [e, hc]
    match j, hj with
    | 0, hj => exact hj
    | 1, hj => exact hj
    | 2, hj => exact hj
    | j + 3, hj => cases hj
theorem int_ne_types {W : World} {base g b : Nat} {ok okr : Nat → Prop} {x : S46} {t : Int} {v : Value} {L : List Int} (hG : IsG base ok W g b x t) (hR : (Kd.int .i64).R 3 W base okr v L) : some g ≠ v.ownBlock ∧ some b ≠ v.ownBlock := by
  obtain ⟨⟨_, h1⟩, ⟨_, h2⟩⟩ := hG.types
  exact ⟨Kd.R_ne hR h1 (by decide), Kd.R_ne hR h2 (by decide)⟩
theorem let_kept {W W' : World} {base g b : Nat} {ok : Nat → Prop} {x : S46} {t : Int} {v : Value} {L : List Int} (hG : IsG base ok W g b x t) (hR : (Kd.int .i64).R 3 W base (fun _ => True) v L) (hB : BG base g b W W') : (Kd.int .i64).R 3 W' base (fun _ => True) v L := by
  obtain ⟨n1, n2⟩ := int_ne_types hG hR
  exact Kd.R_mono (Kd.R_step (Kd.R_tight rfl hR) (fun k hk hlt => hB.2.2 k hlt (fun e => n1 (by rw [← e]; exact hk)) (fun e => n2 (by rw [← e]; exact hk)))) (fun _ _ => trivial)
/-- Behind an append to what was let through. -/
theorem gate_after {W W' : World} {base g b : Nat} {x : S46} {t : Int} {v v1 : Value} {L : List Int} (hG : IsG base (fun k => some k ≠ v.ownBlock) W g b x t) (hR : (Kd.int .i64).R 3 W base (fun _ => True) v L) (hg : W.grownBy W' v.ownBlock) (hat : v1.ownBlock = v.ownBlock ∨ ∃ b, v1.ownBlock = some b ∧ W.heap.size ≤ b) : IsG base (fun k => some k ≠ v1.ownBlock) W' g b x t := by
  obtain ⟨n1, n2⟩ := int_ne_types hG hR
  refine (hG.bound.grown hg n1 n2 (fun k hk => hk.1)).mono (fun k hk => ?_)
  rcases hat with e | ⟨c, e, hc⟩
  · rw [e]; exact hk.1
  · rw [e]
    intro h
    injection h with h
    have := hk.2
    omega

set_option maxRecDepth 100000 in
set_option maxHeartbeats 4000000 in
theorem usufructlaw32_QuotaHolds.calls (q : S23) (A : Option Addr) (c : Nat) (l : List Int) (w : World) (hTab_ : Tabs_ w) (hC : Kd.C (Kd.int .i64) w A l.length l) (hc : l.length ≤ c) (hq : q.f0.size ≤ 9223372036854775807) :
    Calls Tryd.prog 3 #[.agg #[.string q.f0, .int .i64 q.f1, .int .i64 q.f2], .slice A l.length c] w fun e w' => e = .returned (.bool true) ∧ Below w.heap.size w w' := by
  have HTAB_ := Aside0.mk hTab_
  have HR := Aside0.mk hC
  have HQ := Aside0.mk hq
  clear hTab_ hC hc hq
  go_enter Tryd.func3, Tryd.ntmps3
  go_upto_region 1 with (fail)
  have hz := blk_new w (.cells #[.string q.f0, .int .i64 q.f1, .int .i64 q.f2] 23)
  have hb1 : Below w.heap.size w (w.alloc (.cells #[.string q.f0, .int .i64 q.f1, .int .i64 q.f2] 23)) := below_alloc (Below.refl _ _) _
  generalize w.alloc (.cells #[.string q.f0, .int .i64 q.f1, .int .i64 q.f2] 23) = W1 at *
  obtain ⟨z, hzz⟩ : ∃ z, w.heap.size = z := ⟨_, rfl⟩
  rw [hzz] at hz ⊢
  have HZ := Aside0.mk hz
  have HB1 := Aside0.mk hb1
  clear hz hb1 hzz
  by_cases h60 : l.length > 60
  · have hd : decide ((60 : Int) < (l.length : Int)) = true := decide_eq_true (by omega)
    go_wp2_with (go_at_call 6; refine (usufructlaw32_awake.calls _ (HTAB_.out.below HB1.out)).mono ?_; rintro e w2 ⟨rfl, hb⟩; have HB2 := Aside0.mk (below_step HB1.out hb); clear hb)
    go_ret
    exact ⟨rfl, HB2.out⟩
  have hd : decide ((60 : Int) < (l.length : Int)) = false := decide_eq_false (by omega)
  have H60 := Aside0.mk h60
  clear h60
  by_cases h100 : (100 : Int) < (q.f0.size : Int)
  · have hd1 : decide ((100 : Int) < (q.f0.size : Int)) = true := decide_eq_true h100
    go_wp2_with (go_at_call 6; refine (usufructlaw32_awake.calls _ (HTAB_.out.below HB1.out)).mono ?_; rintro e w2 ⟨rfl, hb⟩; have HB2 := Aside0.mk (below_step HB1.out hb); have z0 := (blk_cell (blk_below HZ.out hb) 0).trans rfl; clear hb)
    go_ret
    exact ⟨rfl, HB2.out⟩
  have hd1 : decide ((100 : Int) < (q.f0.size : Int)) = false := decide_eq_false h100
  have H100 := Aside0.mk (show ∀ y ∈ [q], y.f0.size < 1000000 by intro y hy; rw [List.mem_singleton] at hy; subst hy; omega)
  clear h100
  go_upto_region 5 with (go_at_call 6; refine (usufructlaw32_awake.calls _ (HTAB_.out.below HB1.out)).mono ?_; rintro e w2 ⟨rfl, hb⟩; have HB2 := Aside0.mk (below_step HB1.out hb); have HZ2 := Aside0.mk (blk_below HZ.out hb); have z0 := (blk_cell (blk_below HZ.out hb) 0).trans rfl; have z1 := (blk_cell (blk_below HZ.out hb) 1).trans rfl; have z2 := (blk_cell (blk_below HZ.out hb) 2).trans rfl; clear hb)
  have HAL := Aside0.mk (show Below w2.heap.size w2 (w2.alloc (.cells #[.string q.f0, .int .i64 q.f1, .int .i64 q.f2] 23)) from below_alloc (Below.refl _ _) _)
  have HRN := Aside0.mk (read_one w2 q)
  obtain ⟨nr, hnr⟩ : ∃ nr, newR [q] = nr := ⟨_, rfl⟩
  have HNR := Aside0.mk hnr
  have hnr2 := hnr.symm.trans (newR_one q)
  clear hnr
  have hl1 : [q].length < 1000000 := by simp
  cases hrb : rightB q with
  | false =>
    rw [hrb, if_neg (by decide)] at hnr2
    subst hnr2
    clear hrb
    go_wp2_with (go_at_call 7; refine (quota_New.calls (some ⟨w2.heap.size, 0, none⟩) 1 [q] _ (HTAB_.out.below (below_step HB2.out HAL.out)) HRN.out (Nat.le_refl _) H100.out hl1).mono ?_; rw [HNR.out]; rintro e w3 ⟨p, rfl, hp, hb⟩; unfold NewG at hp; rw [if_neg (by decide)] at hp; subst hp; have HB3 := Aside0.mk (below_step (below_step HB2.out HAL.out) hb); clear hb)
    go_ret
    exact ⟨rfl, HB3.out⟩
  | true =>
    rw [hrb, if_pos rfl] at hnr2
    subst hnr2
    have HRB := Aside0.mk hrb
    clear hrb
    go_upto_region 10 with (go_at_call 7; refine (quota_New.calls (some ⟨w2.heap.size, 0, none⟩) 1 [q] _ (HTAB_.out.below (below_step HB2.out HAL.out)) HRN.out (Nat.le_refl _) H100.out hl1).mono ?_; rw [HNR.out]; rintro e w3 ⟨p, rfl, hp, hb⟩; unfold NewG at hp; rw [if_pos rfl] at hp; obtain ⟨g, rfl, hN⟩ := hp; obtain ⟨b, hG⟩ := hN.one; have HB3 := Aside0.mk (below_step (below_step HB2.out HAL.out) hb); have HZ3 := Aside0.mk (blk_below (blk_below HZ2.out HAL.out) hb); have HG3 := Aside0.mk (hG.lower (Nat.le_trans HB2.out.size HAL.out.size)); clear hb hN hG)
    clear z0 z1 z2 hd1
    have HW3 := Aside0.mk HB3.out.size
    go_wp2
    go_loopw [8, 9] (fun v8 v9 W => ∃ (j : Nat) (L : List Int) (x : S46) (t : Int), j ≤ l.length ∧ v9 = .int .i64 (j : Int) ∧ Aside0 (L.length ≤ j) ∧ Aside0 (Inv q x t L) ∧ Aside0 ((Kd.int .i64).R 3 W w.heap.size (fun _ => True) v8 L) ∧ Aside0 (IsG w.heap.size (fun k => some k ≠ v8.ownBlock) W g b x t) ∧ Aside0 (Below w.heap.size w W) ∧ Aside0 (W.heap[z]? = some (.cells #[.string q.f0, .int .i64 q.f1, .int .i64 q.f2] 23 (0, 0)))) (fun _ v9 _ => l.length - (intOf v9).toNat)
    case atStart => exact ⟨0, [], mk0 q, 0, Nat.zero_le _, rfl, ⟨Nat.le_refl _⟩, ⟨Inv.new q⟩, ⟨Kd.R_nil _ _ _ _ _⟩, ⟨HG3.out.mono (fun k _ => by simp [Value.ownBlock])⟩, HB3, HZ3⟩
    case round =>
      clear HG3 HB3 HZ3 HW3
      obtain ⟨j, L, x, t, hj, rfl, HLJ, HI, HRL, HG, HB, HZ3⟩ := hrel
      by_cases hlt : j < l.length
      · have HRW := Aside0.mk (Kd.C_below HR.out HB.out)
        obtain ⟨i, hi⟩ : ∃ i : Int, (j : Int) = i := ⟨_, rfl⟩
        have HII := Aside0.mk hi
        obtain ⟨ad, e, hx⟩ := Kd.at_int HRW.out i (by omega) (by omega)
        cases e
        have hp1 : (0 ≤ i) = True := eq_true (by omega)
        have hq1 : (i < (l.length : Int)) = True := eq_true (by omega)
        have hdl : decide (i < (l.length : Int)) = true := decide_eq_true (by omega)
        have HK := Aside0.mk (show wrap64 (i + 1) = ((j + 1 : Nat) : Int) by unfold wrap64; have := H60.out; omega)
        have HXL := Aside0.mk (show x.f1.length < 900000 by
          obtain ⟨d, _, e, _⟩ := HI.out.held
          rw [e, List.length_drop]
          have := HLJ.out
          have := H60.out
          omega)
        have HT := Aside0.mk (fun W hW hG hok => by
          have h := quota_Take.calls w.heap.size g b (fun k => some k ≠ u8.ownBlock) x t (rd l i) W hG hW hok HXL.out
          rw [HI.out.quo] at h
          exact h)
        rw [hi]
        clear hi
        have HXO := Aside0.mk (show ∃ a0, (some ad : Option Addr) = some a0 ∧ w.cell? (a0.add i.toNat) = some (.int .i64 (rd l i)) from Kd.at_int HR.out i (of_eq_true hp1) (of_eq_true hq1))
        go_upto_region 14 with (fail)
        have hbc : Below w.heap.size w wr.drew := below_drew1 HB.out
        have hx' : wr.drew.cell? (ad.add i.toNat) = some (.int .i64 (rd l i)) := hx
        have z0 : wr.drew.cell? ⟨z, 0, none⟩ = some (.string q.f0) := (blk_cell HZ3.out 0).trans rfl
        have HOK := Aside0.mk (show ∀ k, wr.drew.heap.size ≤ k → some k ≠ u8.ownBlock from fun k hk e => by have h := Kd.R_lt HRL.out k e.symm; have hk' : wr.heap.size ≤ k := hk; omega)
        have HGd := Aside0.mk (show IsG w.heap.size (fun k => some k ≠ u8.ownBlock) wr.drew g b x t from HG.out.below (below_drew1 (Below.refl _ _)))
        have HWd := Aside0.mk (show w.heap.size ≤ wr.drew.heap.size from HB.out.size)
        clear hx
        refine start_ (n := 9) (S := fun w' => w'.cell? ⟨z, 0, none⟩ = some (.string q.f0) ∧ w'.cell? (ad.add i.toNat) = some (.int .i64 (rd l i))) (ds := [7]) #[false, false, false, false, false, false, false, false, false] (by kernel_rfl) rfl rfl ⟨z0, hx'⟩ (fun hHeld => ?_)
        refine pure_ (i := 0) (N := some 43) (v := ?_) (a' := ?_) #[true, false, false, false, false, false, false, false, false] rfl rfl (by kernel_rfl) (fun _ _ _ h => h) (Or.inl ⟨by rfl, ?_⟩) ?_ ?_
        rotate_left
        · intro w'
          go_simp
          with_reducible rfl
        rotate_left
        · simp only [Act.put, List.setIfInBounds_toArray, List.set_cons_zero, List.set_cons_succ, i64_w, i32_w]
          rfl
        refine pure_ (i := 1) (N := some 44) (v := ?_) (a' := ?_) #[true, true, false, false, false, false, false, false, false] rfl rfl (by kernel_rfl) (fun _ _ _ h => h) (Or.inl ⟨by rfl, ?_⟩) ?_ ?_
        rotate_left
        · intro w'
          go_simp
          with_reducible rfl
        rotate_left
        · simp only [Act.put, List.setIfInBounds_toArray, List.set_cons_zero, List.set_cons_succ, i64_w, i32_w]
          rfl
        refine pure_ (i := 3) (N := some 46) (v := ?_) (a' := ?_) #[true, true, false, true, false, false, false, false, false] rfl rfl (by kernel_rfl) (fun _ _ _ h => h) (Or.inl ⟨by rfl, ?_⟩) ?_ ?_
        rotate_left
        · intro w'
          go_simp
          with_reducible rfl
        rotate_left
        · simp only [Act.put, List.setIfInBounds_toArray, List.set_cons_zero, List.set_cons_succ, i64_w, i32_w]
          rfl
        refine pure_ (i := 4) (N := some 47) (v := ?_) (a' := ?_) #[true, true, false, true, true, false, false, false, false] rfl rfl (by kernel_rfl) (fun _ _ _ h => h) (Or.inl ⟨by rfl, ?_⟩) ?_ ?_
        rotate_left
        · intro w'
          go_simp
          with_reducible rfl
        rotate_left
        · simp only [Act.put, List.setIfInBounds_toArray, List.set_cons_zero, List.set_cons_succ, i64_w, i32_w]
          rfl
        refine pure_ (i := 5) (N := some 48) (v := ?_) (a' := ?_) #[true, true, false, true, true, true, false, false, false] rfl rfl (by kernel_rfl) (fun _ _ _ h => h) (Or.inl ⟨by rfl, ?_⟩) ?_ ?_
        rotate_left
        · intro w'
          go_simp
          with_reducible rfl
        rotate_left
        · simp only [Act.put, List.setIfInBounds_toArray, List.set_cons_zero, List.set_cons_succ, i64_w, i32_w]
          rfl
        refine take_ (i := 2) (N := some 45) (v := ?_) (a' := ?_) #[true, true, true, true, true, true, false, false, false] rfl rfl (by kernel_rfl) (fun _ _ _ h => h) (Or.inl ⟨by rfl, ?_⟩) hHeld ?_ ?_
        rotate_left
        · rintro w' ⟨s0, s1⟩
          go_simp
          with_reducible rfl
        rotate_left
        · simp only [Act.put, List.setIfInBounds_toArray, List.set_cons_zero, List.set_cons_succ, i64_w, i32_w]
          rfl
        refine take_ (i := 6) (N := some 49) (v := ?_) (a' := ?_) #[true, true, true, true, true, true, true, false, false] rfl rfl (by kernel_rfl) (fun _ _ _ h => h) (Or.inl ⟨by rfl, ?_⟩) hHeld ?_ ?_
        rotate_left
        · rintro w' ⟨s0, s1⟩
          go_simp
          with_reducible rfl
        rotate_left
        · simp only [Act.put, List.setIfInBounds_toArray, List.set_cons_zero, List.set_cons_succ, i64_w, i32_w]
          rfl
        refine last_ (i := 7) (N := some 50) #[true, true, true, true, true, true, true, true, false] rfl rfl (by kernel_rfl) (by decide) (fun K hK => ?_)
        refine goes_ Tryd.func8 (by kernel_rfl) rfl #[.pointer (some ⟨g, 0, none⟩), .string q.f0, .int .i64 (rd l i)] (by rfl) rfl rfl (by simp only [List.map_toArray, List.map_cons, List.map_nil]; rfl) ?_
        with_reducible refine (HT.out _ HWd.out HGd.out HOK.out).mono ?_
        rintro e w5 ⟨rfl, hG5, hb5⟩
        refine ⟨_, rfl, ?_⟩
        have HG5 := Aside0.mk hG5
        have HB5 := Aside0.mk hb5
        clear hG5 hb5
        refine hK.out _ _ ?_
        clear hK K
        refine norm_ (a' := ?_) ?_ ?_
        rotate_left
        · show Act.put _ (some 50) _ = _
          simp only [Act.put, List.setIfInBounds_toArray, List.set_cons_zero, List.set_cons_succ, i64_w, i32_w]
          rfl
        refine pure_ (i := 8) (N := some 51) (v := ?_) (a' := ?_) #[true, true, true, true, true, true, true, true, true] rfl rfl (by kernel_rfl) (fun _ _ _ h => h) (Or.inl ⟨by rfl, ?_⟩) ?_ ?_
        rotate_left
        · intro w'
          go_simp
          with_reducible rfl
        rotate_left
        · simp only [Act.put, List.setIfInBounds_toArray, List.set_cons_zero, List.set_cons_succ, i64_w, i32_w]
          rfl
        refine done_ (by kernel_rfl) ?_
        have HRL5 := Aside0.mk (let_kept HGd.out (Kd.R_drew HRL.out) HB5.out)
        have HBB5 := Aside0.mk (hbc.trans HB5.out.1)
        have HZ5 := Aside0.mk (show w5.heap[z]? = some (.cells #[.string q.f0, .int .i64 q.f1, .int .i64 q.f2] 23 (0, 0)) from (HB5.out.2.2 z (blk_lt HZ3.out) (by
          obtain ⟨⟨_, t1⟩, _⟩ := HGd.out.types
          exact (blk_ne HZ3.out t1 (by decide))) (by
          obtain ⟨_, ⟨_, t2⟩⟩ := HGd.out.types
          exact (blk_ne HZ3.out t2 (by decide)))).trans HZ3.out)
        have hx5 : w5.cell? (ad.add i.toNat) = some (.int .i64 (rd l i)) := by
          obtain ⟨a0, e0, h0⟩ := HXO.out
          injection e0 with e0
          subst e0
          exact (HBB5.out.cell (World.block_lt_of_cell? w _ h0)).trans h0
        have HLL := Aside0.mk (show (L.length + 1) * 8 ≤ 140737488355328 by have := HLJ.out; have := H60.out; omega)
        clear hHeld hx' z0 hbc
        by_cases he : takeE x t (rd l i) = 0
        · have hd2 : (takeE x t (rd l i) == 0) = true := by simpa using he
          have HI5 := Aside0.mk (HI.out.step HRB.out (by have := HLJ.out; have := H60.out; omega) (rd l i) he)
          clear he
          go_wp2_with ((with_reducible refine gate_builtin (b := .append) (xs := #[.tmp 52, .tmp 57]) rfl ?_); at_builtin; refine Kd.R_append (Kd.int .i64) (w0 := w) w.heap.size rfl (.tmp 52) (.tmp 57) 24 3 (.int .i64 0) 8 rfl rfl info3 rfl (by decide) (by decide) u8 L (rd l i) [.int .i64 (rd l i)] (fun _ => True) (fun _ => False) rfl rfl rfl (fun _ h => h.elim) (fun _ _ => trivial) HRL5.out HBB5.out HBB5.out.size HLL.out ?_; intro v6 w6 hR6 hB6 hg6 hat6; have HR6 := Aside0.mk hR6; have HB6 := Aside0.mk hB6; have HG6 := Aside0.mk (gate_after HG5.out HRL5.out hg6 hat6); have HZ6 := Aside0.mk (blk_grown HZ5.out hg6 (Kd.R_ne HRL5.out HZ5.out (by decide))); clear hR6 hB6 hg6 hat6)
          go_roundw
          case rel => exact ⟨j + 1, L ++ [rd l i], _, _, by omega, by rw [HK.out], ⟨by rw [List.length_append, List.length_singleton]; have := HLJ.out; omega⟩, HI5, HR6, HG6, HB6, HZ6⟩
          case measure => have := HII.out; simp [intOf, HK.out]; omega
        · have hd2 : (takeE x t (rd l i) == 0) = false := by simpa using he
          have HI5 := Aside0.mk (HI.out.stay (rd l i) he)
          clear he
          go_wp2
          go_roundw
          case rel => exact ⟨j + 1, L, _, _, by omega, by rw [HK.out], ⟨by have := HLJ.out; omega⟩, HI5, HRL5, HG5, HBB5, HZ5⟩
          case measure => have := HII.out; simp [intOf, HK.out]; omega
      · skip
        have hjl : j = l.length := by omega
        subst hjl
        have hdl : decide ((l.length : Int) < (l.length : Int)) = false := decide_eq_false (by omega)
        obtain ⟨A8, c8, rfl, hc8, hC8⟩ := Kd.R_reads HRL.out
        have HC8 := Aside0.mk hC8
        have z1 : wr.cell? ⟨z, 1, none⟩ = some (.int .i64 q.f1) := (blk_cell HZ3.out 1).trans rfl
        have z2 : wr.cell? ⟨z, 2, none⟩ = some (.int .i64 q.f2) := (blk_cell HZ3.out 2).trans rfl
        have HL60 := Aside0.mk (show L.length ≤ 60 by have := HLJ.out; have := H60.out; omega)
        clear hC8 hc8 HG HLJ HRL
        go_wp2
        go_loopw [10] (fun v10 W => ∃ i : Nat, i ≤ L.length ∧ v10 = .int .i64 (i : Int) ∧ ∃ m, W = wr.drewN m) (fun v10 _ => L.length - (intOf v10).toNat)
        case atStart => exact ⟨0, Nat.zero_le _, rfl, 0, rfl⟩
        case round =>
          obtain ⟨i, hi, rfl, m, rfl⟩ := hrel
          by_cases hlt2 : i < L.length
          · obtain ⟨ii, hii⟩ : ∃ ii : Int, (i : Int) = ii := ⟨_, rfl⟩
            have HII := Aside0.mk hii
            obtain ⟨ad, e, hx⟩ := Kd.at_int HC8.out ii (by omega) (by omega)
            cases e
            have hp1 : (0 ≤ ii) = True := eq_true (by omega)
            have hq1 : (ii < (L.length : Int)) = True := eq_true (by omega)
            have hd3 : decide (ii < (L.length : Int)) = true := decide_eq_true (by omega)
            have HK := Aside0.mk (show wrap64 (ii + 1) = ((i + 1 : Nat) : Int) by unfold wrap64; have := HL60.out; omega)
            have HAI := Aside0.mk (show rd L ii = aL L i by subst hii; rfl)
            rw [hii]
            clear hii
            go_wp2
            go_loopw [11, 12] (fun v11 v12 W => ∃ (k n : Nat), i ≤ k ∧ k ≤ L.length ∧ v12 = .int .i64 (k : Int) ∧ v11 = .int .i64 (n : Int) ∧ Aside0 ((n : Int) ≤ q.f1 ∧ (n + i = k ∨ (i < k ∧ aL L i + q.f2 ≤ aL L (k - 1)))) ∧ ∃ m, W = wr.drewN m) (fun _ v12 _ => L.length - (intOf v12).toNat)
            case atStart => exact ⟨i, 0, Nat.le_refl _, Nat.le_of_lt hlt2, by rw [← HII.out], rfl, ⟨⟨(right_of HRB.out).1, .inl (Nat.zero_add _)⟩⟩, m, rfl⟩
            case round =>
              obtain ⟨k, n, hik, hkL, rfl, rfl, HN, m2, rfl⟩ := hrel
              obtain ⟨nn, hnn⟩ : ∃ nn : Int, (n : Int) = nn := ⟨_, rfl⟩
              by_cases hlt3 : k < L.length
              · obtain ⟨kk, hkk⟩ : ∃ kk : Int, (k : Int) = kk := ⟨_, rfl⟩
                have HKK := Aside0.mk hkk
                obtain ⟨ad2, e2, hy⟩ := Kd.at_int HC8.out kk (by omega) (by omega)
                obtain rfl : ad = ad2 := by injection e2
                have hp2 : (0 ≤ kk) = True := eq_true (by omega)
                have hq2 : (kk < (L.length : Int)) = True := eq_true (by omega)
                have hd4 : decide (kk < (L.length : Int)) = true := decide_eq_true (by omega)
                have HK2 := Aside0.mk (show wrap64 (kk + 1) = ((k + 1 : Nat) : Int) by unfold wrap64; have := HL60.out; omega)
                have hak : rd L kk = aL L k := by subst hkk; rfl
                have hai := HAI.out
                have b1 := HI.out.up i k hik hlt3
                have b2 := HI.out.low i hlt2
                have b3 := HI.out.low k hlt3
                have b4 := HI.out.top k hlt3
                have b5 := HI.out.top i hlt2
                have b6 := HI.out.t1
                have hd5 : decide (rd L kk < rd L ii) = false := decide_eq_false (by omega)
                obtain ⟨df, hdf⟩ : ∃ df, wrap64 (rd L kk - rd L ii) = df := ⟨_, rfl⟩
                have hdf' : IntKind.i64.wrap (rd L kk - rd L ii) = df := (i64_w _).trans hdf
                have hdd : df = aL L k - aL L i := by rw [← hdf, hak, hai]; unfold wrap64; omega
                have HNN := Aside0.mk hnn
                have HK3 := Aside0.mk (show wrap64 (nn + 1) = ((n + 1 : Nat) : Int) by
                  have h1 := HN.out.1
                  have h2 := (right_of HRB.out).2.1
                  unfold wrap64; omega)
                by_cases hw : df < q.f2
                · have hd6 : decide (df < q.f2) = true := decide_eq_true hw
                  have HN2 := Aside0.mk (show (((n + 1 : Nat) : Int) ≤ q.f1 ∧ (n + 1 + i = k + 1 ∨ (i < k + 1 ∧ aL L i + q.f2 ≤ aL L (k + 1 - 1)))) by
                    have hf := HI.out.few i k hik hlt3 (by omega)
                    rcases HN.out.2 with h | ⟨h1, h2⟩
                    · exact ⟨by omega, .inl (by omega)⟩
                    · exfalso
                      have := HI.out.up (k - 1) k (by omega) hlt3
                      omega)
                  clear hw hdd b1 b2 b3 b4 b5 b6 hai hak hdf
                  rw [hkk, hnn]
                  clear hkk hnn
                  go_wp2
                  repeat (go_quiet (fail); try go_wp2)
                  go_roundw
                  case rel => exact ⟨k + 1, n + 1, by omega, by omega, by rw [HK2.out], by rw [HK3.out], HN2, _, by first | rfl | exact (World.drewN_drewN _ _ _) | (rw [World.drewN_drewN, World.drewN_drewN])⟩
                  case measure => have := HKK.out; simp [intOf, HK2.out]; omega
                · have hd6 : decide (df < q.f2) = false := decide_eq_false hw
                  have HN2 := Aside0.mk (show ((n : Int) ≤ q.f1 ∧ (n + i = k + 1 ∨ (i < k + 1 ∧ aL L i + q.f2 ≤ aL L (k + 1 - 1)))) from ⟨HN.out.1, .inr ⟨by omega, by rw [Nat.add_sub_cancel]; omega⟩⟩)
                  clear hw hdd b1 b2 b3 b4 b5 b6 hai hak hdf
                  rw [hkk, hnn]
                  clear hkk hnn
                  go_wp2
                  repeat (go_quiet (fail); try go_wp2)
                  go_roundw
                  case rel => exact ⟨k + 1, n, by omega, by omega, by rw [HK2.out], by rw [HNN.out], HN2, _, by first | rfl | exact (World.drewN_drewN _ _ _) | (rw [World.drewN_drewN, World.drewN_drewN])⟩
                  case measure => have := HKK.out; simp [intOf, HK2.out]; omega
              · have hkl : k = L.length := by omega
                subst hkl
                have hd4 : decide ((L.length : Int) < (L.length : Int)) = false := decide_eq_false (by omega)
                have hd5 : decide (q.f1 < nn) = false := decide_eq_false (by have := HN.out.1; omega)
                rw [hnn]
                clear hnn
                go_wp2
                go_roundw
                case rel => exact ⟨i + 1, by omega, by rw [HK.out], m2, rfl⟩
                case measure => have := HII.out; simp [intOf, HK.out]; omega
          · have hil : i = L.length := by omega
            subst hil
            have hd3 : decide ((L.length : Int) < (L.length : Int)) = false := decide_eq_false (by omega)
            go_wp2
            go_ret
            exact ⟨rfl, pw_below_drewN HB.out _⟩
end Go.Proofs.YtchfkkpghipeiaaDoor.Q
