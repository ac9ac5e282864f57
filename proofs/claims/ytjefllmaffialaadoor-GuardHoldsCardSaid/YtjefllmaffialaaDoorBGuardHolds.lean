/- GuardHolds, walked. -/
import Derived.Test.YtjefllmaffialaaDoorGGuardAny
namespace Go.Proofs.YtjefllmaffialaaDoor.Q
open Go.RowKit Go.Shelf Go.Proofs.YtjefllmaffialaaDoorW.PrintWords Go.Proofs.YtjefllmaffialaaDoorW.PrintLast Go.Proofs.YtjefllmaffialaaDoorW.PrintMore
set_option linter.unusedVariables false
set_option linter.unusedSimpArgs false

theorem kinds (k : Int) : k = 0 ∨ k = 1 ∨ k = 2 ∨ k = 3 ∨ k = 4 ∨ k = 5 ∨ k = 6 ∨ ((k == 0) = false ∧ (k == 1) = false ∧ (k == 2) = false ∧ (k == 3) = false ∧ (k == 4) = false ∧ (k == 5) = false ∧ (k == 6) = false) := by
  by_cases h0 : k = 0
  · exact .inl h0
  by_cases h1 : k = 1
  · exact .inr (.inl h1)
  by_cases h2 : k = 2
  · exact .inr (.inr (.inl h2))
  by_cases h3 : k = 3
  · exact .inr (.inr (.inr (.inl h3)))
  by_cases h4 : k = 4
  · exact .inr (.inr (.inr (.inr (.inl h4))))
  by_cases h5 : k = 5
  · exact .inr (.inr (.inr (.inr (.inr (.inl h5)))))
  by_cases h6 : k = 6
  · exact .inr (.inr (.inr (.inr (.inr (.inr (.inl h6))))))
  exact .inr (.inr (.inr (.inr (.inr (.inr (.inr ⟨beq_eq_false_iff_ne.mpr h0, beq_eq_false_iff_ne.mpr h1, beq_eq_false_iff_ne.mpr h2, beq_eq_false_iff_ne.mpr h3, beq_eq_false_iff_ne.mpr h4, beq_eq_false_iff_ne.mpr h5, beq_eq_false_iff_ne.mpr h6⟩))))))

set_option maxRecDepth 100000 in
set_option maxHeartbeats 8000000 in
theorem usufructlaw12_GuardHolds.calls (A : Option Addr) (c : Nat) (l : List S37) (Ab : Option Addr) (cb : Nat) (acts : List Act4) (w : World) (hTab_ : Tabs_ w) (hC : Kd.C k37 w A l.length l) (hc : l.length ≤ c) (hCb : Kd.C kA w Ab acts.length acts) (hcb : acts.length ≤ cb) :
    Calls Tryd.prog 3 #[.slice A l.length c, .slice Ab acts.length cb] w fun e w' => e = .returned (.bool true) ∧ Below w.heap.size w w' := by
  have HTAB_ := Aside0.mk hTab_
  have HR := Aside0.mk hC
  have HCC := Aside0.mk hc
  have HRB := Aside0.mk hCb
  have HCB := Aside0.mk hcb
  clear hTab_ hC hc hCb hcb
  obtain ⟨k, fb, hfb, hsz⟩ := few_f l
  have HF := Aside0.mk hfb
  have HSZ := Aside0.mk hsz
  clear hfb hsz
  go_enter Tryd.func3, Tryd.ntmps3
  go_upto_region 3 with (go_at_call 5; refine (usufructlaw12_awake.calls _ HTAB_.out).mono ?_; rintro e W1 ⟨rfl, hb⟩; have HB1 := Aside0.mk hb; clear hb)
  by_cases h8 : (8 : Int) < (l.length : Int)
  · have hd8 : decide ((8 : Int) < (l.length : Int)) = true := decide_eq_true h8
    clear h8
    go_wp2
    go_ret
    exact ⟨rfl, HB1.out⟩
  have hd8 : decide ((8 : Int) < (l.length : Int)) = false := decide_eq_false h8
  have H8 := Aside0.mk (show l.length ≤ 8 by omega)
  clear h8
  cases fb with
  | false =>
    go_wp2_with (go_at_call 6; refine (usufructlaw12_few.calls k A c l false _ (Kd.C_below HR.out HB1.out) HCC.out HF.out).mono ?_; rintro e W2 ⟨rfl, hd⟩; have HB2 := Aside0.mk (below_step HB1.out hd.below); clear hd)
    go_ret
    exact ⟨rfl, HB2.out⟩
  | true =>
    have HSZ2 := Aside0.mk (HSZ.out rfl)
    clear HSZ
    by_cases h5 : (50 : Int) < (acts.length : Int)
    · have hd5 : decide ((50 : Int) < (acts.length : Int)) = true := decide_eq_true h5
      clear h5
      go_wp2_with (go_at_call 6; refine (usufructlaw12_few.calls k A c l true _ (Kd.C_below HR.out HB1.out) HCC.out HF.out).mono ?_; rintro e W2 ⟨rfl, hd⟩; have HB2 := Aside0.mk (below_step HB1.out hd.below); clear hd)
      go_ret
      exact ⟨rfl, HB2.out⟩
    have hd5 : decide ((50 : Int) < (acts.length : Int)) = false := decide_eq_false h5
    have H5 := Aside0.mk (show acts.length ≤ 50 by omega)
    clear h5
    go_upto_region 6 with (first | (go_at_call 6; refine (usufructlaw12_few.calls k A c l true _ (Kd.C_below HR.out HB1.out) HCC.out HF.out).mono ?_; rintro e W2 ⟨rfl, hd⟩; have HB2 := Aside0.mk (below_step HB1.out hd.below); clear hd) | (go_at_call 7; refine (guard_New.calls A c l _ (HTAB_.out.below HB2.out) (Kd.C_below HR.out HB2.out) HCC.out HSZ2.out (by have := H8.out; omega)).mono ?_; rintro e w3 ⟨p, at_, er, rfl, hp, _, hb⟩; have HP := Aside0.mk hp; have HB3 := Aside0.mk (below_step HB2.out hb); have HB23 := Aside0.mk hb; clear hb hp))
    by_cases he : er = 0
    rotate_left
    · have hde : (er != 0) = true := bne_iff_ne.mpr he
      have hp := HP.out
      unfold NewGd at hp
      rw [if_neg he] at hp
      subst hp
      clear he HP
      go_wp2
      go_ret
      exact ⟨rfl, HB3.out⟩
    subst he
    have hp := HP.out
    unfold NewGd at hp
    rw [if_pos rfl] at hp
    obtain ⟨g, gs0, rfl, hG, hmap, hfl, _⟩ := hp
    have HG0 := Aside0.mk hG
    have HM0 := Aside0.mk hmap
    have HF0 := Aside0.mk (show FlOk gs0 from fun x hx => by
      have h1 := hG.ok x hx
      unfold okP at h1
      have h2 := hfl x hx
      omega)
    have HBW := Aside0.mk HB2.out
    clear hG hmap hfl HP
    go_wp2
    go_loopw [8] (fun v8 W => ∃ (j : Nat) (gs : List Gt), j ≤ acts.length ∧ v8 = .int .i64 (j : Int) ∧ Aside0 (IsGd W2 W g gs) ∧ Aside0 (gs.map Gt.p = l) ∧ Aside0 (FlOk gs) ∧ Aside0 (Below W2.heap.size W2 W)) (fun v8 _ => acts.length - (intOf v8).toNat)
    case atStart => exact ⟨0, gs0, Nat.zero_le _, rfl, HG0, HM0, HF0, HB23⟩
    case round =>
      clear HG0 HM0 HF0 HB23 HB3
      obtain ⟨j, gs, hj, rfl, HG, HM, HFL, HB⟩ := hrel
      by_cases hlt : j < acts.length
      rotate_left
      · have hjl : j = acts.length := by omega
        subst hjl
        have hd1 : decide ((acts.length : Int) < (acts.length : Int)) = false := decide_eq_false (by omega)
        go_wp2
        go_ret
        exact ⟨rfl, HBW.out.trans (HB.out.mono HBW.out.size)⟩
      obtain ⟨ad, e, x0, x1, x2, x3⟩ := at_A HRB.out (j : Int) (by omega) (by omega)
      cases e
      have HBW3 := Aside0.mk (HBW.out.trans (HB.out.mono HBW.out.size))
      replace x0 := (HBW3.out.cell (World.block_lt_of_cell? w _ x0)).trans x0
      replace x1 := (HBW3.out.cell (World.block_lt_of_cell? w _ x1)).trans x1
      replace x2 := (HBW3.out.cell (World.block_lt_of_cell? w _ x2)).trans x2
      replace x3 := (HBW3.out.cell (World.block_lt_of_cell? w _ x3)).trans x3
      generalize rdA acts (j : Int) = ac at *
      have HLT := Aside0.mk hlt
      obtain ⟨i, hi⟩ : ∃ i : Int, (j : Int) = i := ⟨_, rfl⟩
      have HI := Aside0.mk hi
      have hp1 : (0 ≤ i) = True := eq_true (by omega)
      have hq1 : (i < (acts.length : Int)) = True := eq_true (by omega)
      have hd1 : decide (i < (acts.length : Int)) = true := decide_eq_true (by omega)
      have HK := Aside0.mk (show wrap64 (i + 1) = ((j + 1 : Nat) : Int) by unfold wrap64; have := H5.out; omega)
      rw [hi] at x0 x1 x2 x3 ⊢
      clear hi hlt hj
      obtain ⟨a0, a1, a2, a3⟩ := ac
      dsimp only at x0 x1 x2 x3
      obtain ⟨er, her⟩ := SendR.ex HG.out a1 a2
      go_upto_region 12 with (fail)
      have hz := blk_new wr (.cells #[.int .i64 a0, .int .i64 a1, .int .i64 a2, .int .i64 a3] 31)
      have hb4 : Below wr.heap.size wr (wr.alloc (.cells #[.int .i64 a0, .int .i64 a1, .int .i64 a2, .int .i64 a3] 31)) := below_alloc (Below.refl _ _) _
      clear x0 x1 x2 x3
      have HG4 := Aside0.mk (HG.out.below hb4)
      have HB4 := Aside0.mk (below_step HB.out hb4)
      have HS4 := Aside0.mk (show SendR W2 (wr.alloc (.cells #[.int .i64 a0, .int .i64 a1, .int .i64 a2, .int .i64 a3] 31)) gs a1 a2 er from her.imp id (fun ⟨j, hj, k, h1, h2, h3, h4⟩ => ⟨j, hj, k, h1, h2, h3.below hb4, h4⟩))
      generalize wr.alloc (.cells #[.int .i64 a0, .int .i64 a1, .int .i64 a2, .int .i64 a3] 31) = W4 at *
      obtain ⟨z, hzz⟩ : ∃ z, wr.heap.size = z := ⟨_, rfl⟩
      rw [hzz] at hz ⊢
      have HZ := Aside0.mk hz
      have z0 : W4.cell? ⟨z, 0, none⟩ = some (.int .i64 a0) := (blk_cell hz 0).trans rfl
      have z1 : W4.cell? ⟨z, 1, none⟩ = some (.int .i64 a1) := (blk_cell hz 1).trans rfl
      have z2 : W4.cell? ⟨z, 2, none⟩ = some (.int .i64 a2) := (blk_cell hz 2).trans rfl
      have z3 : W4.cell? ⟨z, 3, none⟩ = some (.int .i64 a3) := (blk_cell hz 3).trans rfl
      clear hz hb4 hzz her HG HB
      go_upto_region 13 with (go_at_call 8; refine (g_State W2 _ g gs a1 a2 er HG4.out HB4.out HS4.out).mono ?_; rintro e W5 ⟨s, rfl, hg, hb, hs, hne, hq⟩; have HZ5 := Aside0.mk (hq z _ HZ.out); have HG5 := Aside0.mk hg; have HB5 := Aside0.mk hb; have HS5 := Aside0.mk hs; have HNE := Aside0.mk hne; clear hg hb hs hne hq)
      clear z0 z1 z2 z3
      have z0 : W5.cell? ⟨z, 0, none⟩ = some (.int .i64 a0) := (blk_cell HZ5.out 0).trans rfl
      have z1 : W5.cell? ⟨z, 1, none⟩ = some (.int .i64 a1) := (blk_cell HZ5.out 1).trans rfl
      have z2 : W5.cell? ⟨z, 2, none⟩ = some (.int .i64 a2) := (blk_cell HZ5.out 2).trans rfl
      have z3 : W5.cell? ⟨z, 3, none⟩ = some (.int .i64 a3) := (blk_cell HZ5.out 3).trans rfl
      have hdd : ((er == 0) = true ∧ (s == 1) = false) ∨ (er == 0) = false := by
        by_cases he : er = 0
        · exact .inl ⟨beq_iff_eq.mpr he, beq_eq_false_iff_ne.mpr (HNE.out he)⟩
        · exact .inr (beq_eq_false_iff_ne.mpr he)
      rcases hdd with ⟨hd5, hd6⟩ | hd5
      all_goals rcases kinds a0 with rfl | rfl | rfl | rfl | rfl | rfl | rfl | ⟨k0, k1, k2, k3, k4, k5, k6⟩
      all_goals go_upto_region 25 with (first | (go_at_call 9; refine (g_Send W2 _ g gs a1 a2 er HG5.out HB5.out HFL.out HS5.out).mono ?_; rintro e W5 ⟨gs, rfl, hg, hb, hm, hf, hq⟩; have HM := Aside0.mk (hm.trans HM.out); have HG5 := Aside0.mk hg; have HB5 := Aside0.mk hb; have HFL := Aside0.mk hf; clear hg hb hm hf hq) | (go_at_call 10; refine (g_Over W2 _ g gs a1 a2 a3 HG5.out HB5.out HFL.out).mono ?_; rintro e W5 ⟨er', gs, rfl, hg, hb, hm, hf, hq⟩; have HM := Aside0.mk (hm.trans HM.out); have HG5 := Aside0.mk hg; have HB5 := Aside0.mk hb; have HFL := Aside0.mk hf; clear hg hb hm hf hq) | (go_at_call 11; refine (g_Restore W2 _ g gs a1 a3 HG5.out HB5.out HFL.out).mono ?_; rintro e W5 ⟨er', gs, rfl, hg, hb, hm, hf, hq⟩; have HM := Aside0.mk (hm.trans HM.out); have HG5 := Aside0.mk hg; have HB5 := Aside0.mk hb; have HFL := Aside0.mk hf; clear hg hb hm hf hq))
      all_goals clear z0 z1 z2 z3 HZ5 HZ HS5 HNE
      all_goals
        go_wp2
        go_loopw [11] (fun v11 W => ∃ q : Nat, q ≤ l.length ∧ v11 = .int .i64 (q : Int) ∧ Aside0 (IsGd W2 W g gs) ∧ Aside0 (Below W2.heap.size W2 W)) (fun v11 _ => l.length - (intOf v11).toNat)
        case atStart => exact ⟨0, Nat.zero_le _, rfl, HG5, HB5⟩
        case round =>
          clear HG5 HB5
          obtain ⟨q, hq, rfl, HGq, HBq⟩ := hrel
          by_cases hlt : q < l.length
          rotate_left
          · have hql : q = l.length := by omega
            subst hql
            have hd9 : decide ((l.length : Int) < (l.length : Int)) = false := decide_eq_false (by omega)
            go_wp2
            go_roundw
            case rel => exact ⟨j + 1, gs, by have := HLT.out; omega, by rw [HK.out], HGq, HM, HFL, HBq⟩
            case measure => have := HI.out; have := HLT.out; simp [intOf, HK.out]; omega
          have hqg : q < gs.length := by have h := congrArg List.length HM.out; rw [List.length_map] at h; omega
          obtain ⟨ad2, e2, _, y1, _⟩ := at_T37 HR.out (q : Int) (by omega) (by omega)
          subst e2
          have HBq3 := Aside0.mk (HBW.out.trans (HBq.out.mono HBW.out.size))
          replace y1 := (HBq3.out.cell (World.block_lt_of_cell? w _ y1)).trans y1
          have hsp : (rd_T37 l (q : Int)).f1 = gs[q].p.f1 := by
            have h1 : l[q] = gs[q].p := by
              have h2 : (gs.map Gt.p)[q]? = l[q]? := by rw [HM.out]
              rw [List.getElem?_map, List.getElem?_eq_getElem hqg, List.getElem?_eq_getElem hlt] at h2
              exact (Option.some.inj h2).symm
            unfold rd_T37
            rw [Int.toNat_natCast, List.getD_eq_getElem?_getD, List.getElem?_eq_getElem hlt, ← h1]
            rfl
          rw [hsp] at y1
          have hfq := HFL.out _ (List.getElem_mem hqg)
          obtain ⟨qi, hqi⟩ : ∃ qi : Int, (q : Int) = qi := ⟨_, rfl⟩
          have HFC := Aside0.mk (fun W (h : IsGd W2 W g gs) => guard_Flying_some W2 W g gs q hqg qi (by omega) (by omega) h)
          generalize gs[q].fl = fl at *
          generalize gs[q].p.f1 = st at *
          have hd7 : decide (fl < 0) = false := decide_eq_false (by omega)
          have hd8' : decide (st < fl) = false := decide_eq_false (by omega)
          have HQI := Aside0.mk hqi
          have HQL := Aside0.mk hlt
          have hp3 : (0 ≤ qi) = True := eq_true (by omega)
          have hq3 : (qi < (l.length : Int)) = True := eq_true (by omega)
          have hd9 : decide (qi < (l.length : Int)) = true := decide_eq_true (by omega)
          have HKQ := Aside0.mk (show wrap64 (qi + 1) = ((q + 1 : Nat) : Int) by unfold wrap64; have := H8.out; omega)
          rw [hqi] at y1 ⊢
          clear hqi hlt hq hqg hfq hsp
          go_upto_region 28 with (fail)
          refine start_ (n := 15) (S := fun w' => w'.cell? ⟨(ad2.add (qi.toNat * 5)).block, (ad2.add (qi.toNat * 5)).off + 1, none⟩ = some (.int .i64 st)) (ds := []) #[false, false, false, false, false, false, false, false, false, false, false, false, false, false, false] (by kernel_rfl) rfl rfl (y1) (fun hHeld => ?_)
          refine pure_ (i := 0) (N := some 100) (v := ?_) (a' := ?_) #[true, false, false, false, false, false, false, false, false, false, false, false, false, false, false] rfl rfl (by kernel_rfl) (fun _ _ _ h => h) (Or.inl ⟨by rfl, ?_⟩) ?_ ?_
          rotate_left
          · intro w'
            go_simp
            with_reducible rfl
          rotate_left
          · simp only [Act.put, List.setIfInBounds_toArray, List.set_cons_zero, List.set_cons_succ, i64_w, i32_w]
            rfl
          refine pure_ (i := 1) (N := some 101) (v := ?_) (a' := ?_) #[true, true, false, false, false, false, false, false, false, false, false, false, false, false, false] rfl rfl (by kernel_rfl) (fun _ _ _ h => h) (Or.inl ⟨by rfl, ?_⟩) ?_ ?_
          rotate_left
          · intro w'
            go_simp
            with_reducible rfl
          rotate_left
          · simp only [Act.put, List.setIfInBounds_toArray, List.set_cons_zero, List.set_cons_succ, i64_w, i32_w]
            rfl
          refine one_ (i := 2) (N := some 102) #[true, true, true, false, false, false, false, false, false, false, false, false, false, false, false] rfl rfl (by kernel_rfl) (by decide) (fun K hK => ?_)
          refine goes_ Tryd.func12 (by kernel_rfl) rfl #[.pointer (some ⟨g, 0, none⟩), .int .i64 qi] (by rfl) rfl rfl (by simp only [List.map_toArray, List.map_cons, List.map_nil]; rfl) ?_
          with_reducible refine (HFC.out _ (HGq.out.below (below_drew1 (Below.refl _ _)))).mono ?_
          rintro e W7 ⟨rfl, hb⟩
          refine ⟨_, rfl, ?_⟩
          have HG7 := Aside0.mk (HGq.out.below (below_step (below_drew1 (Below.refl _ _)) hb))
          have HB7 := Aside0.mk (below_step (below_step HBq.out (below_drew1 (Below.refl _ _))) hb)
          have y7 := ((below_step (below_drew1 (Below.refl _ _)) hb).cell (World.block_lt_of_cell? _ _ y1)).trans y1
          clear hb
          refine hK.out _ _ (y7) (fun hHeld => ?_)
          clear hK K
          refine norm_ (a' := ?_) ?_ ?_
          rotate_left
          · show Act.put _ (some 102) _ = _
            simp only [Act.put, List.setIfInBounds_toArray, List.set_cons_zero, List.set_cons_succ, i64_w, i32_w]
            rfl
          refine pure_ (i := 3) (N := some 103) (v := ?_) (a' := ?_) #[true, true, true, true, false, false, false, false, false, false, false, false, false, false, false] rfl rfl (by kernel_rfl) (fun _ _ _ h => h) (Or.inl ⟨by rfl, ?_⟩) ?_ ?_
          rotate_left
          · intro w'
            go_simp
            with_reducible rfl
          rotate_left
          · simp only [Act.put, List.setIfInBounds_toArray, List.set_cons_zero, List.set_cons_succ, i64_w, i32_w]
            rfl
          refine pure_ (i := 4) (N := some 104) (v := ?_) (a' := ?_) #[true, true, true, true, true, false, false, false, false, false, false, false, false, false, false] rfl rfl (by kernel_rfl) (fun _ _ _ h => h) (Or.inl ⟨by rfl, ?_⟩) ?_ ?_
          rotate_left
          · intro w'
            go_simp
            with_reducible rfl
          rotate_left
          · simp only [Act.put, List.setIfInBounds_toArray, List.set_cons_zero, List.set_cons_succ, i64_w, i32_w]
            rfl
          refine pure_ (i := 5) (N := some 105) (v := ?_) (a' := ?_) #[true, true, true, true, true, true, false, false, false, false, false, false, false, false, false] rfl rfl (by kernel_rfl) (fun _ _ _ h => h) (Or.inl ⟨by rfl, ?_⟩) ?_ ?_
          rotate_left
          · intro w'
            go_simp
            with_reducible rfl
          rotate_left
          · simp only [Act.put, List.setIfInBounds_toArray, List.set_cons_zero, List.set_cons_succ, i64_w, i32_w]
            rfl
          refine pure_ (i := 6) (N := some 106) (v := ?_) (a' := ?_) #[true, true, true, true, true, true, true, false, false, false, false, false, false, false, false] rfl rfl (by kernel_rfl) (fun _ _ _ h => h) (Or.inl ⟨by rfl, ?_⟩) ?_ ?_
          rotate_left
          · intro w'
            go_simp
            with_reducible rfl
          rotate_left
          · simp only [Act.put, List.setIfInBounds_toArray, List.set_cons_zero, List.set_cons_succ, i64_w, i32_w]
            rfl
          refine pure_ (i := 8) (N := some 108) (v := ?_) (a' := ?_) #[true, true, true, true, true, true, true, false, true, false, false, false, false, false, false] rfl rfl (by kernel_rfl) (fun _ _ _ h => h) (Or.inl ⟨by rfl, ?_⟩) ?_ ?_
          rotate_left
          · intro w'
            go_simp
            with_reducible rfl
          rotate_left
          · simp only [Act.put, List.setIfInBounds_toArray, List.set_cons_zero, List.set_cons_succ, i64_w, i32_w]
            rfl
          refine pure_ (i := 9) (N := some 109) (v := ?_) (a' := ?_) #[true, true, true, true, true, true, true, false, true, true, false, false, false, false, false] rfl rfl (by kernel_rfl) (fun _ _ _ h => h) (Or.inl ⟨by rfl, ?_⟩) ?_ ?_
          rotate_left
          · intro w'
            go_simp
            with_reducible rfl
          rotate_left
          · simp only [Act.put, List.setIfInBounds_toArray, List.set_cons_zero, List.set_cons_succ, i64_w, i32_w]
            rfl
          refine pure_ (i := 10) (N := some 110) (v := ?_) (a' := ?_) #[true, true, true, true, true, true, true, false, true, true, true, false, false, false, false] rfl rfl (by kernel_rfl) (fun _ _ _ h => h) (Or.inl ⟨by rfl, ?_⟩) ?_ ?_
          rotate_left
          · intro w'
            go_simp
            with_reducible rfl
          rotate_left
          · simp only [Act.put, List.setIfInBounds_toArray, List.set_cons_zero, List.set_cons_succ, i64_w, i32_w]
            rfl
          refine pure_ (i := 11) (N := some 111) (v := ?_) (a' := ?_) #[true, true, true, true, true, true, true, false, true, true, true, true, false, false, false] rfl rfl (by kernel_rfl) (fun _ _ _ h => h) (Or.inl ⟨by rfl, ?_⟩) ?_ ?_
          rotate_left
          · intro w'
            go_simp
            with_reducible rfl
          rotate_left
          · simp only [Act.put, List.setIfInBounds_toArray, List.set_cons_zero, List.set_cons_succ, i64_w, i32_w]
            rfl
          refine take_ (i := 12) (N := some 112) (v := ?_) (a' := ?_) #[true, true, true, true, true, true, true, false, true, true, true, true, true, false, false] rfl rfl (by kernel_rfl) (fun _ _ _ h => h) (Or.inl ⟨by rfl, ?_⟩) hHeld ?_ ?_
          rotate_left
          · intro w' s0
            go_simp
            with_reducible rfl
          rotate_left
          · simp only [Act.put, List.setIfInBounds_toArray, List.set_cons_zero, List.set_cons_succ, i64_w, i32_w]
            rfl
          refine one_ (i := 7) (N := some 107) #[true, true, true, true, true, true, true, true, true, true, true, true, true, false, false] rfl rfl (by kernel_rfl) (by decide) (fun K hK => ?_)
          refine goes_ Tryd.func12 (by kernel_rfl) rfl #[.pointer (some ⟨g, 0, none⟩), .int .i64 qi] (by rfl) rfl rfl (by simp only [List.map_toArray, List.map_cons, List.map_nil]; rfl) ?_
          with_reducible refine (HFC.out _ HG7.out).mono ?_
          rintro e W8 ⟨rfl, hb⟩
          refine ⟨_, rfl, ?_⟩
          have HG8 := Aside0.mk (HG7.out.below hb)
          have HB8 := Aside0.mk (below_step HB7.out hb)
          have y8 := (hb.cell (World.block_lt_of_cell? _ _ y7)).trans y7
          clear hb
          refine hK.out _ _ (y8) (fun hHeld => ?_)
          clear hK K
          refine norm_ (a' := ?_) ?_ ?_
          rotate_left
          · show Act.put _ (some 107) _ = _
            simp only [Act.put, List.setIfInBounds_toArray, List.set_cons_zero, List.set_cons_succ, i64_w, i32_w]
            rfl
          refine pure_ (i := 13) (N := some 113) (v := ?_) (a' := ?_) #[true, true, true, true, true, true, true, true, true, true, true, true, true, true, false] rfl rfl (by kernel_rfl) (fun _ _ _ h => h) (Or.inl ⟨by rfl, ?_⟩) ?_ ?_
          rotate_left
          · intro w'
            go_simp
            with_reducible rfl
          rotate_left
          · simp only [Act.put, List.setIfInBounds_toArray, List.set_cons_zero, List.set_cons_succ, i64_w, i32_w]
            rfl
          refine pure_ (i := 14) (N := some 114) (v := ?_) (a' := ?_) #[true, true, true, true, true, true, true, true, true, true, true, true, true, true, true] rfl rfl (by kernel_rfl) (fun _ _ _ h => h) (Or.inl ⟨by rfl, ?_⟩) ?_ ?_
          rotate_left
          · intro w'
            go_simp
            with_reducible rfl
          rotate_left
          · simp only [Act.put, List.setIfInBounds_toArray, List.set_cons_zero, List.set_cons_succ, i64_w, i32_w]
            rfl
          refine done_ (by kernel_rfl) ?_
          clear hHeld y1 y7 y8
          go_wp2
          go_roundw
          case rel => exact ⟨q + 1, by have := HQL.out; omega, by rw [HKQ.out], HG8, HB8⟩
          case measure => have := HQI.out; have := HQL.out; simp [intOf, HKQ.out]; omega
end Go.Proofs.YtjefllmaffialaaDoor.Q
