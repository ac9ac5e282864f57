/- QuotaNexts, walked. -/
import Derived.Test.YtchfkkpghipeiaaDoorBQuotaHolds
import Derived.Test.YtchfkkpghipeiaaDoorBQuotaNext
namespace Go.Proofs.YtchfkkpghipeiaaDoor.Q
open Go.RowKit Go.Shelf Go.Proofs.YtchfkkpghipeiaaDoorW.PrintWords Go.Proofs.YtchfkkpghipeiaaDoorW.PrintLast Go.Proofs.YtchfkkpghipeiaaDoorW.PrintMore
set_option linter.unusedVariables false
set_option linter.unusedSimpArgs false
attribute [local go_sem] max2_int min2_int max_two min_two

set_option maxRecDepth 100000 in
set_option maxHeartbeats 4000000 in
theorem usufructlaw32_QuotaNexts.calls (q : S23) (A : Option Addr) (c : Nat) (l : List Int) (now ah : Int) (w : World) (hah0 : 0 ≤ ah) (hah1 : ah < 256) (hTab_ : Tabs_ w) (hC : Kd.C (Kd.int .i64) w A l.length l) (hc : l.length ≤ c) (hq : q.f0.size ≤ 9223372036854775807) :
    Calls Tryd.prog 4 #[.agg #[.string q.f0, .int .i64 q.f1, .int .i64 q.f2], .slice A l.length c, .int .i64 now, .int .u8 ah] w fun e w' => e = .returned (.bool true) ∧ Below w.heap.size w w' := by
  have HTAB_ := Aside0.mk hTab_
  have HR := Aside0.mk hC
  have HQ := Aside0.mk hq
  clear hTab_ hC hc hq
  go_enter Tryd.func4, Tryd.ntmps4
  go_upto_region 1 with (fail)
  have hz := blk_new w (.cells #[.string q.f0, .int .i64 q.f1, .int .i64 q.f2] 23)
  have hb1 : Below w.heap.size w (w.alloc (.cells #[.string q.f0, .int .i64 q.f1, .int .i64 q.f2] 23)) := below_alloc (Below.refl _ _) _
  generalize w.alloc (.cells #[.string q.f0, .int .i64 q.f1, .int .i64 q.f2] 23) = W1 at *
  obtain ⟨z, hzz⟩ : ∃ z, w.heap.size = z := ⟨_, rfl⟩
  rw [hzz] at hz ⊢
  have HZ := Aside0.mk hz
  have HB1 := Aside0.mk hb1
  clear hz hb1 hzz
  by_cases h60 : l.length > 60
  · have hd : decide ((60 : Int) < (l.length : Int)) = true := decide_eq_true (by omega)
    go_wp2_with (go_at_call 6; refine (usufructlaw32_awake.calls _ (HTAB_.out.below HB1.out)).mono ?_; rintro e w2 ⟨rfl, hb⟩; have HB2 := Aside0.mk (below_step HB1.out hb); clear hb)
    go_ret
    exact ⟨rfl, HB2.out⟩
  have hd : decide ((60 : Int) < (l.length : Int)) = false := decide_eq_false (by omega)
  have H60 := Aside0.mk h60
  clear h60
  by_cases h100 : (100 : Int) < (q.f0.size : Int)
  · have hd1 : decide ((100 : Int) < (q.f0.size : Int)) = true := decide_eq_true h100
    go_wp2_with (go_at_call 6; refine (usufructlaw32_awake.calls _ (HTAB_.out.below HB1.out)).mono ?_; rintro e w2 ⟨rfl, hb⟩; have HB2 := Aside0.mk (below_step HB1.out hb); have z0 := (blk_cell (blk_below HZ.out hb) 0).trans rfl; clear hb)
    go_ret
    exact ⟨rfl, HB2.out⟩
  have hd1 : decide ((100 : Int) < (q.f0.size : Int)) = false := decide_eq_false h100
  have H100 := Aside0.mk (show ∀ y ∈ [q], y.f0.size < 1000000 by intro y hy; rw [List.mem_singleton] at hy; subst hy; omega)
  clear h100
  go_upto_region 5 with (go_at_call 6; refine (usufructlaw32_awake.calls _ (HTAB_.out.below HB1.out)).mono ?_; rintro e w2 ⟨rfl, hb⟩; have HB2 := Aside0.mk (below_step HB1.out hb); have HZ2 := Aside0.mk (blk_below HZ.out hb); have z0 := (blk_cell (blk_below HZ.out hb) 0).trans rfl; have z1 := (blk_cell (blk_below HZ.out hb) 1).trans rfl; have z2 := (blk_cell (blk_below HZ.out hb) 2).trans rfl; clear hb)
  have HAL := Aside0.mk (show Below w2.heap.size w2 (w2.alloc (.cells #[.string q.f0, .int .i64 q.f1, .int .i64 q.f2] 23)) from below_alloc (Below.refl _ _) _)
  have HRN := Aside0.mk (read_one w2 q)
  obtain ⟨nr, hnr⟩ : ∃ nr, newR [q] = nr := ⟨_, rfl⟩
  have HNR := Aside0.mk hnr
  have hnr2 := hnr.symm.trans (newR_one q)
  clear hnr
  have hl1 : [q].length < 1000000 := by simp
  cases hrb : rightB q with
  | false =>
    rw [hrb, if_neg (by decide)] at hnr2
    subst hnr2
    clear hrb
    go_wp2_with (go_at_call 7; refine (quota_New.calls (some ⟨w2.heap.size, 0, none⟩) 1 [q] _ (HTAB_.out.below (below_step HB2.out HAL.out)) HRN.out (Nat.le_refl _) H100.out hl1).mono ?_; rw [HNR.out]; rintro e w3 ⟨p, rfl, hp, hb⟩; unfold NewG at hp; rw [if_neg (by decide)] at hp; subst hp; have HB3 := Aside0.mk (below_step (below_step HB2.out HAL.out) hb); clear hb)
    go_ret
    exact ⟨rfl, HB3.out⟩
  | true =>
    rw [hrb, if_pos rfl] at hnr2
    subst hnr2
    have HRB := Aside0.mk hrb
    clear hrb
    go_upto_region 8 with (go_at_call 7; refine (quota_New.calls (some ⟨w2.heap.size, 0, none⟩) 1 [q] _ (HTAB_.out.below (below_step HB2.out HAL.out)) HRN.out (Nat.le_refl _) H100.out hl1).mono ?_; rw [HNR.out]; rintro e w3 ⟨p, rfl, hp, hb⟩; unfold NewG at hp; rw [if_pos rfl] at hp; obtain ⟨g, rfl, hN⟩ := hp; obtain ⟨b, hG⟩ := hN.one; have HB3 := Aside0.mk (below_step (below_step HB2.out HAL.out) hb); have HZ3 := Aside0.mk (blk_below (blk_below HZ2.out HAL.out) hb); have HG3 := Aside0.mk (hG.lower (Nat.le_trans HB2.out.size HAL.out.size)); clear hb hN hG)
    clear z0 z1 z2 hd1
    have HW3 := Aside0.mk HB3.out.size
    go_wp2
    go_loopw [12] (fun v12 W => ∃ (j : Nat) (L : List Int) (x : S46) (t : Int), j ≤ l.length ∧ v12 = .int .i64 (j : Int) ∧ Aside0 (L.length ≤ j) ∧ Aside0 (Inv q x t L) ∧ Aside0 (IsG w.heap.size (fun _ => True) W g b x t) ∧ Aside0 (Below w.heap.size w W) ∧ Aside0 (W.heap[z]? = some (.cells #[.string q.f0, .int .i64 q.f1, .int .i64 q.f2] 23 (0, 0)))) (fun v12 _ => l.length - (intOf v12).toNat)
    case atStart => exact ⟨0, [], mk0 q, 0, Nat.zero_le _, rfl, ⟨Nat.le_refl _⟩, ⟨Inv.new q⟩, HG3, HB3, HZ3⟩
    case round =>
      clear HG3 HB3 HZ3 HW3
      obtain ⟨j, L, x, t, hj, rfl, HLJ, HI, HG, HB, HZ3⟩ := hrel
      have HXL := Aside0.mk (show x.f1.length < 900000 by
        obtain ⟨d, _, e, _⟩ := HI.out.held
        rw [e, List.length_drop]
        have := HLJ.out
        have := H60.out
        omega)
      have hz_ne : ∀ W, IsG w.heap.size (fun _ => True) W g b x t → W.heap[z]? = some (.cells #[.string q.f0, .int .i64 q.f1, .int .i64 q.f2] 23 (0, 0)) → z ≠ g ∧ z ≠ b := fun W hG hz => by
        obtain ⟨⟨_, t1⟩, ⟨_, t2⟩⟩ := hG.types
        exact ⟨blk_ne hz t1 (by decide), blk_ne hz t2 (by decide)⟩
      have HZN := Aside0.mk (hz_ne _ HG.out HZ3.out)
      clear hz_ne
      by_cases hlt : j < l.length
      · have HRW := Aside0.mk (Kd.C_below HR.out HB.out)
        obtain ⟨i, hi⟩ : ∃ i : Int, (j : Int) = i := ⟨_, rfl⟩
        have HII := Aside0.mk hi
        obtain ⟨ad, e, hx⟩ := Kd.at_int HRW.out i (by omega) (by omega)
        cases e
        have hp1 : (0 ≤ i) = True := eq_true (by omega)
        have hq1 : (i < (l.length : Int)) = True := eq_true (by omega)
        have hdl : decide (i < (l.length : Int)) = true := decide_eq_true (by omega)
        have HK := Aside0.mk (show wrap64 (i + 1) = ((j + 1 : Nat) : Int) by unfold wrap64; have := H60.out; omega)
        have HT := Aside0.mk (fun W hW hG => by
          have h := quota_Take.calls w.heap.size g b (fun _ => True) x t (rd l i) W hG hW (fun _ _ => trivial) HXL.out
          rw [HI.out.quo] at h
          exact h)
        rw [hi]
        clear hi
        go_upto_region 11 with (fail)
        have hbc : Below w.heap.size w wr.drew := below_drew1 HB.out
        have hx' : wr.drew.cell? (ad.add i.toNat) = some (.int .i64 (rd l i)) := hx
        have z0 : wr.drew.cell? ⟨z, 0, none⟩ = some (.string q.f0) := (blk_cell HZ3.out 0).trans rfl
        have HGd := Aside0.mk (show IsG w.heap.size (fun _ => True) wr.drew g b x t from HG.out.below (below_drew1 (Below.refl _ _)))
        have HWd := Aside0.mk (show w.heap.size ≤ wr.drew.heap.size from HB.out.size)
        clear hx
        refine start_ (n := 8) (S := fun w' => w'.cell? ⟨z, 0, none⟩ = some (.string q.f0) ∧ w'.cell? (ad.add i.toNat) = some (.int .i64 (rd l i))) (ds := [7]) #[false, false, false, false, false, false, false, false] (by kernel_rfl) rfl rfl ⟨z0, hx'⟩ (fun hHeld => ?_)
        refine pure_ (i := 0) (N := some 47) (v := ?_) (a' := ?_) #[true, false, false, false, false, false, false, false] rfl rfl (by kernel_rfl) (fun _ _ _ h => h) (Or.inl ⟨by rfl, ?_⟩) ?_ ?_
        rotate_left
        · intro w'
          go_simp
          with_reducible rfl
        rotate_left
        · simp only [Act.put, List.setIfInBounds_toArray, List.set_cons_zero, List.set_cons_succ, i64_w, i32_w]
          rfl
        refine pure_ (i := 1) (N := some 48) (v := ?_) (a' := ?_) #[true, true, false, false, false, false, false, false] rfl rfl (by kernel_rfl) (fun _ _ _ h => h) (Or.inl ⟨by rfl, ?_⟩) ?_ ?_
        rotate_left
        · intro w'
          go_simp
          with_reducible rfl
        rotate_left
        · simp only [Act.put, List.setIfInBounds_toArray, List.set_cons_zero, List.set_cons_succ, i64_w, i32_w]
          rfl
        refine pure_ (i := 3) (N := some 50) (v := ?_) (a' := ?_) #[true, true, false, true, false, false, false, false] rfl rfl (by kernel_rfl) (fun _ _ _ h => h) (Or.inl ⟨by rfl, ?_⟩) ?_ ?_
        rotate_left
        · intro w'
          go_simp
          with_reducible rfl
        rotate_left
        · simp only [Act.put, List.setIfInBounds_toArray, List.set_cons_zero, List.set_cons_succ, i64_w, i32_w]
          rfl
        refine pure_ (i := 4) (N := some 51) (v := ?_) (a' := ?_) #[true, true, false, true, true, false, false, false] rfl rfl (by kernel_rfl) (fun _ _ _ h => h) (Or.inl ⟨by rfl, ?_⟩) ?_ ?_
        rotate_left
        · intro w'
          go_simp
          with_reducible rfl
        rotate_left
        · simp only [Act.put, List.setIfInBounds_toArray, List.set_cons_zero, List.set_cons_succ, i64_w, i32_w]
          rfl
        refine pure_ (i := 5) (N := some 52) (v := ?_) (a' := ?_) #[true, true, false, true, true, true, false, false] rfl rfl (by kernel_rfl) (fun _ _ _ h => h) (Or.inl ⟨by rfl, ?_⟩) ?_ ?_
        rotate_left
        · intro w'
          go_simp
          with_reducible rfl
        rotate_left
        · simp only [Act.put, List.setIfInBounds_toArray, List.set_cons_zero, List.set_cons_succ, i64_w, i32_w]
          rfl
        refine take_ (i := 2) (N := some 49) (v := ?_) (a' := ?_) #[true, true, true, true, true, true, false, false] rfl rfl (by kernel_rfl) (fun _ _ _ h => h) (Or.inl ⟨by rfl, ?_⟩) hHeld ?_ ?_
        rotate_left
        · rintro w' ⟨s0, s1⟩
          go_simp
          with_reducible rfl
        rotate_left
        · simp only [Act.put, List.setIfInBounds_toArray, List.set_cons_zero, List.set_cons_succ, i64_w, i32_w]
          rfl
        refine take_ (i := 6) (N := some 53) (v := ?_) (a' := ?_) #[true, true, true, true, true, true, true, false] rfl rfl (by kernel_rfl) (fun _ _ _ h => h) (Or.inl ⟨by rfl, ?_⟩) hHeld ?_ ?_
        rotate_left
        · rintro w' ⟨s0, s1⟩
          go_simp
          with_reducible rfl
        rotate_left
        · simp only [Act.put, List.setIfInBounds_toArray, List.set_cons_zero, List.set_cons_succ, i64_w, i32_w]
          rfl
        refine last_ (i := 7) (N := some 54) #[true, true, true, true, true, true, true, true] rfl rfl (by kernel_rfl) (by decide) (fun K hK => ?_)
        refine goes_ Tryd.func8 (by kernel_rfl) rfl #[.pointer (some ⟨g, 0, none⟩), .string q.f0, .int .i64 (rd l i)] (by rfl) rfl rfl (by simp only [List.map_toArray, List.map_cons, List.map_nil]; rfl) ?_
        with_reducible refine (HT.out _ HWd.out HGd.out).mono ?_
        rintro e w5 ⟨rfl, hG5, hb5⟩
        refine ⟨_, rfl, ?_⟩
        have HG5 := Aside0.mk hG5
        have HB5 := Aside0.mk hb5
        clear hG5 hb5
        refine hK.out _ _ ?_
        clear hK K
        refine norm_ (a' := ?_) ?_ ?_
        rotate_left
        · show Act.put _ (some 54) _ = _
          simp only [Act.put, List.setIfInBounds_toArray, List.set_cons_zero, List.set_cons_succ, i64_w, i32_w]
          rfl
        refine done_ (by kernel_rfl) ?_
        have HBB5 := Aside0.mk (hbc.trans HB5.out.1)
        have HZ5 := Aside0.mk (show w5.heap[z]? = some (.cells #[.string q.f0, .int .i64 q.f1, .int .i64 q.f2] 23 (0, 0)) from (HB5.out.2.2 z (blk_lt HZ3.out) HZN.out.1 HZN.out.2).trans HZ3.out)
        clear hHeld hx' z0 hbc
        go_wp2
        go_roundw
        case rel =>
          by_cases he : takeE x t (rd l i) = 0
          · exact ⟨j + 1, L ++ [rd l i], _, _, by omega, by rw [HK.out], ⟨by rw [List.length_append, List.length_singleton]; have := HLJ.out; omega⟩, ⟨HI.out.step HRB.out (by have := HLJ.out; have := H60.out; omega) (rd l i) he⟩, HG5, HBB5, HZ5⟩
          · exact ⟨j + 1, L, _, _, by omega, by rw [HK.out], ⟨by have := HLJ.out; omega⟩, ⟨HI.out.stay (rd l i) he⟩, HG5, HBB5, HZ5⟩
        case measure => have := HII.out; simp [intOf, HK.out]; omega
      · have hjl : j = l.length := by omega
        subst hjl
        have hdl : decide ((l.length : Int) < (l.length : Int)) = false := decide_eq_false (by omega)
        have hcs := next_cases HRB.out HI.out (by have := HLJ.out; have := H60.out; omega) now
        have HNX := Aside0.mk (fun W hG => by
          have h := quota_Next.calls w.heap.size g b (fun _ => True) x t now W hG HXL.out (by rw [HI.out.quo]; exact (right_of HRB.out).1) (by rw [HI.out.quo]; exact (right_of HRB.out).2.1)
          rw [HI.out.quo] at h
          exact h)
        have HLF := Aside0.mk (fun k W (hG : RdG W g [x] t) => quota_Left.calls g q.f0 k [x] t W hG (by simp) (by intro y hy; rw [List.mem_singleton] at hy; subst hy; have := HXL.out; omega))
        have HT := Aside0.mk (fun n W hW hG => by
          have h := quota_Take.calls w.heap.size g b (fun _ => True) x t n W hG hW (fun _ _ => trivial) HXL.out
          rw [HI.out.quo] at h
          exact h)
        have z0 : wr.cell? ⟨z, 0, none⟩ = some (.string q.f0) := (blk_cell HZ3.out 0).trans rfl
        generalize nextG x t now = n at *
        rcases hcs with ⟨hbig, hcs⟩ | ⟨hn0, hnn, hnm, hlk, hlp, htk⟩
        · have hd1 : decide ((1099511627776 : Int) < n) = true := decide_eq_true hbig
          by_cases h1 : now < 0
          · have hd2 : decide (now < 0) = true := decide_eq_true h1
            go_wp2_with (first | (go_at_call 9; (with_reducible refine (HNX.out _ HG.out).mono ?_); rintro e w5 ⟨rfl, hb⟩; have HG5 := Aside0.mk (HG.out.below hb); have HB5 := Aside0.mk (below_step HB.out hb); replace z0 := (hb.cell (World.block_lt_of_cell? _ _ z0)).trans z0; clear hb))
            go_ret
            exact ⟨rfl, HB5.out⟩
          have hd2 : decide (now < 0) = false := decide_eq_false h1
          by_cases h2 : 1099511627776 < now
          · have hd3 : decide ((1099511627776 : Int) < now) = true := decide_eq_true h2
            go_wp2_with (first | (go_at_call 9; (with_reducible refine (HNX.out _ HG.out).mono ?_); rintro e w5 ⟨rfl, hb⟩; have HG5 := Aside0.mk (HG.out.below hb); have HB5 := Aside0.mk (below_step HB.out hb); replace z0 := (hb.cell (World.block_lt_of_cell? _ _ z0)).trans z0; clear hb))
            go_ret
            exact ⟨rfl, HB5.out⟩
          have hd3 : decide ((1099511627776 : Int) < now) = false := decide_eq_false h2
          have HLN := Aside0.mk (show leftG [x] t q.f0 now = 0 by rcases hcs with h | h | h; exact absurd h h1; exact absurd h h2; exact h)
          clear hcs h1 h2 hbig
          go_wp2_with (first | (go_at_call 9; (with_reducible refine (HNX.out _ HG.out).mono ?_); rintro e w5 ⟨rfl, hb⟩; have HG5 := Aside0.mk (HG.out.below hb); have HB5 := Aside0.mk (below_step HB.out hb); replace z0 := (hb.cell (World.block_lt_of_cell? _ _ z0)).trans z0; clear hb) | (go_at_call 10; (with_reducible refine (HLF.out now _ HG5.out.rd).mono ?_); rw [HLN.out]; rintro e w6 ⟨rfl, hb⟩; replace HG5 := Aside0.mk (HG5.out.below hb); replace HB5 := Aside0.mk (below_step HB5.out hb); replace z0 := (hb.cell (World.block_lt_of_cell? _ _ z0)).trans z0; clear hb))
          go_ret
          exact ⟨rfl, HB5.out⟩
        · have hd1 : decide ((1099511627776 : Int) < n) = false := decide_eq_false (by omega)
          have hd2 : decide (n < now) = false := decide_eq_false (by omega)
          have hw1 : IntKind.i64.wrap (n - 1) = n - 1 := by rw [i64_w]; unfold wrap64; omega
          have hw2 : IntKind.i64.wrap (n - 1 - ah) = n - 1 - ah := by rw [i64_w]; unfold wrap64; omega
          have hw3 : IntKind.i64.wrap ah = ah := by rw [i64_w]; unfold wrap64; omega
          have hw4 : wrap64 (n - 1) = n - 1 := by unfold wrap64; omega
          have hw5 : wrap64 (n - 1 - ah) = n - 1 - ah := by unfold wrap64; omega
          have hw6 : wrap64 ah = ah := by unfold wrap64; omega
          have HTN := Aside0.mk htk
          obtain ⟨lf, hlf⟩ : ∃ lf, leftG [x] t q.f0 n = lf := ⟨_, rfl⟩
          rw [hlf] at hlp
          have HLP := Aside0.mk hlf
          have hdp : decide (0 < lf) = true := decide_eq_true hlp
          clear hlf hlp htk
          by_cases hmx : n - 1 - ah < now
          · have hmx' : (n - 1 - ah < now) = True := eq_true hmx
            by_cases hkn : now < n
            · have hd3 : decide (now < n) = true := decide_eq_true hkn
              have HLN := Aside0.mk (hlk now (Int.le_refl _) hkn)
              clear hlk hkn hmx hnn hnm hn0
              go_wp2_with (first | (go_at_call 9; (with_reducible refine (HNX.out _ HG.out).mono ?_); rintro e w5 ⟨rfl, hb⟩; have HG5 := Aside0.mk (HG.out.below hb); have HB5 := Aside0.mk (below_step HB.out hb); replace z0 := (hb.cell (World.block_lt_of_cell? _ _ z0)).trans z0; clear hb) | (go_at_call 10; (with_reducible refine (HLF.out now _ HG5.out.rd).mono ?_); rw [HLN.out]; rintro e w6 ⟨rfl, hb⟩; replace HG5 := Aside0.mk (HG5.out.below hb); replace HB5 := Aside0.mk (below_step HB5.out hb); replace z0 := (hb.cell (World.block_lt_of_cell? _ _ z0)).trans z0; clear hb) | (go_at_call 10; (with_reducible refine (HLF.out n _ HG5.out.rd).mono ?_); rw [HLP.out]; rintro e w6 ⟨rfl, hb⟩; replace HG5 := Aside0.mk (HG5.out.below hb); replace HB5 := Aside0.mk (below_step HB5.out hb); replace z0 := (hb.cell (World.block_lt_of_cell? _ _ z0)).trans z0; clear hb) | (go_at_call 8; (with_reducible refine (HT.out n _ HB5.out.size HG5.out).mono ?_); rw [HTN.out]; rintro e w7 ⟨rfl, _, hb⟩; have HB7 := Aside0.mk (HB5.out.trans hb.1); clear hb))
              go_ret
              exact ⟨rfl, HB7.out⟩
            · have hd3 : decide (now < n) = false := decide_eq_false hkn
              clear hlk hkn hmx hnn hnm hn0
              go_wp2_with (first | (go_at_call 9; (with_reducible refine (HNX.out _ HG.out).mono ?_); rintro e w5 ⟨rfl, hb⟩; have HG5 := Aside0.mk (HG.out.below hb); have HB5 := Aside0.mk (below_step HB.out hb); replace z0 := (hb.cell (World.block_lt_of_cell? _ _ z0)).trans z0; clear hb) | (go_at_call 10; (with_reducible refine (HLF.out n _ HG5.out.rd).mono ?_); rw [HLP.out]; rintro e w6 ⟨rfl, hb⟩; replace HG5 := Aside0.mk (HG5.out.below hb); replace HB5 := Aside0.mk (below_step HB5.out hb); replace z0 := (hb.cell (World.block_lt_of_cell? _ _ z0)).trans z0; clear hb) | (go_at_call 8; (with_reducible refine (HT.out n _ HB5.out.size HG5.out).mono ?_); rw [HTN.out]; rintro e w7 ⟨rfl, _, hb⟩; have HB7 := Aside0.mk (HB5.out.trans hb.1); clear hb))
              go_ret
              exact ⟨rfl, HB7.out⟩
          · have hmx' : (n - 1 - ah < now) = False := eq_false hmx
            have hkn : n - 1 - ah < n := by omega
            have hd3 : decide (n - 1 - ah < n) = true := decide_eq_true hkn
            have HLN := Aside0.mk (hlk (n - 1 - ah) (by omega) hkn)
            clear hlk hkn hmx hnn hnm hn0
            go_wp2_with (first | (go_at_call 9; (with_reducible refine (HNX.out _ HG.out).mono ?_); rintro e w5 ⟨rfl, hb⟩; have HG5 := Aside0.mk (HG.out.below hb); have HB5 := Aside0.mk (below_step HB.out hb); replace z0 := (hb.cell (World.block_lt_of_cell? _ _ z0)).trans z0; clear hb) | (go_at_call 10; (with_reducible refine (HLF.out (n - 1 - ah) _ HG5.out.rd).mono ?_); rw [HLN.out]; rintro e w6 ⟨rfl, hb⟩; replace HG5 := Aside0.mk (HG5.out.below hb); replace HB5 := Aside0.mk (below_step HB5.out hb); replace z0 := (hb.cell (World.block_lt_of_cell? _ _ z0)).trans z0; clear hb) | (go_at_call 10; (with_reducible refine (HLF.out n _ HG5.out.rd).mono ?_); rw [HLP.out]; rintro e w6 ⟨rfl, hb⟩; replace HG5 := Aside0.mk (HG5.out.below hb); replace HB5 := Aside0.mk (below_step HB5.out hb); replace z0 := (hb.cell (World.block_lt_of_cell? _ _ z0)).trans z0; clear hb) | (go_at_call 8; (with_reducible refine (HT.out n _ HB5.out.size HG5.out).mono ?_); rw [HTN.out]; rintro e w7 ⟨rfl, _, hb⟩; have HB7 := Aside0.mk (HB5.out.trans hb.1); clear hb))
            go_ret
            exact ⟨rfl, HB7.out⟩
end Go.Proofs.YtchfkkpghipeiaaDoor.Q
