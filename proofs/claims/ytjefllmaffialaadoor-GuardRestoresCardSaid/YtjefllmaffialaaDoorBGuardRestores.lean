/- GuardRestores, walked. -/
import Derived.Test.YtjefllmaffialaaDoorGGuardAny
namespace Go.Proofs.YtjefllmaffialaaDoor.Q
open Go.RowKit Go.Shelf Go.Proofs.YtjefllmaffialaaDoorW.PrintWords Go.Proofs.YtjefllmaffialaaDoorW.PrintLast Go.Proofs.YtjefllmaffialaaDoorW.PrintMore
set_option linter.unusedVariables false
set_option linter.unusedSimpArgs false

theorem SendR.below {w0 W W' : World} {gs : List Gt} {p now er : Int} (h : SendR w0 W gs p now er) (hb : Below W.heap.size W W') : SendR w0 W' gs p now er := by
  rcases h with h | ⟨j, hj, k, h1, h2, h3, h4⟩
  · exact .inl h
  · exact .inr ⟨j, hj, k, h1, h2, h3.below hb, h4⟩
theorem over_pos (w0 w : World) (g : Nat) (gs : List Gt) (kk : Nat) (hk : kk < gs.length) (i : Int) (hi : i.toNat = kk) (h0 : 0 ≤ i) (x : Gt) (h : IsGd w0 w g (gs.set kk x)) (hb : Below w0.heap.size w0 w) (hf : 1 ≤ x.fl ∧ x.fl ≤ 10000) :
    Calls Tryd.prog 10 #[.pointer (some ⟨g, 0, none⟩), .int .i64 i, .int .i64 0, .int .i64 0] w fun e w' => e = .returned (.int .i64 0) ∧ IsGd w0 w' g (gs.set kk ⟨x.b, x.p, x.fl - 1⟩) ∧ Below w0.heap.size w0 w' := by
  have hk' : kk < (gs.set kk x).length := by rw [List.length_set]; exact hk
  have hx : (gs.set kk x)[kk]'hk' = x := List.getElem_set_self hk'
  have h1 := guard_Over_some w0 w g (gs.set kk x) kk hk' i hi h0 0 0 h hb (by rw [hx]; omega)
  rw [hx] at h1
  have he : overE x 0 = 0 := by
    unfold overE
    rw [if_neg (by decide), if_neg (by omega)]
  rw [he] at h1
  have hg : overG (gs.set kk x) kk x 0 = gs.set kk ⟨x.b, x.p, x.fl - 1⟩ := by
    unfold overG
    rw [if_pos rfl, List.set_set]
  rw [hg] at h1
  exact h1.mono (fun e w' h => ⟨h.1, h.2.1, h.2.2.1⟩)
theorem over_zero (w0 w : World) (g : Nat) (gs : List Gt) (kk : Nat) (hk : kk < gs.length) (i : Int) (hi : i.toNat = kk) (h0 : 0 ≤ i) (x : Gt) (h : IsGd w0 w g (gs.set kk x)) (hb : Below w0.heap.size w0 w) (hf : x.fl = 0) :
    Calls Tryd.prog 10 #[.pointer (some ⟨g, 0, none⟩), .int .i64 i, .int .i64 0, .int .i64 0] w fun e w' => e = .returned (.int .i64 9) ∧ Below w0.heap.size w0 w' := by
  have hk' : kk < (gs.set kk x).length := by rw [List.length_set]; exact hk
  have hx : (gs.set kk x)[kk]'hk' = x := List.getElem_set_self hk'
  have h1 := guard_Over_some w0 w g (gs.set kk x) kk hk' i hi h0 0 0 h hb (by rw [hx, hf]; decide)
  rw [hx] at h1
  have he : overE x 0 = 9 := by
    unfold overE
    rw [if_neg (by decide), if_pos hf]
  rw [he] at h1
  exact h1.mono (fun e w' h => ⟨h.1, h.2.2.1⟩)
theorem flying_at (w0 w : World) (g : Nat) (gs : List Gt) (kk : Nat) (hk : kk < gs.length) (i : Int) (hi : i.toNat = kk) (h0 : 0 ≤ i) (x : Gt) (h : IsGd w0 w g (gs.set kk x)) :
    Calls Tryd.prog 12 #[.pointer (some ⟨g, 0, none⟩), .int .i64 i] w fun e w' => e = .returned (.int .i64 x.fl) ∧ Below w.heap.size w w' := by
  have hk' : kk < (gs.set kk x).length := by rw [List.length_set]; exact hk
  have hx : (gs.set kk x)[kk]'hk' = x := List.getElem_set_self hk'
  have h1 := guard_Flying_some w0 w g (gs.set kk x) kk hk' i hi h0 h
  rw [hx] at h1
  exact h1
theorem state_at (w0 w : World) (g : Nat) (gs : List Gt) (kk : Nat) (hk : kk < gs.length) (i : Int) (hi : i.toNat = kk) (h0 : 0 ≤ i) (x : Gt) (h : IsGd w0 w g (gs.set kk x)) (hb : Below w0.heap.size w0 w) (hf : IsB w0 w x.b (freshK x.p)) :
    Calls Tryd.prog 8 #[.pointer (some ⟨g, 0, none⟩), .int .i64 i, .int .i64 0] w fun e w' => e = .returned (.int .i64 0) ∧ IsGd w0 w' g (gs.set kk x) ∧ Below w0.heap.size w0 w' := by
  have hk' : kk < (gs.set kk x).length := by rw [List.length_set]; exact hk
  have hx : (gs.set kk x)[kk]'hk' = x := List.getElem_set_self hk'
  have h1 := guard_State_some w0 w g (gs.set kk x) kk hk' i hi h0 0 h hb
  rw [hx] at h1
  refine h1.mono ?_
  rintro e w' ⟨k, rfl, _, hk0, hg, hb', _⟩
  obtain rfl := hf.uniq hk0
  exact ⟨rfl, hg, hb'⟩

set_option maxRecDepth 100000 in
set_option maxHeartbeats 8000000 in
theorem usufructlaw12_GuardRestores.calls (A : Option Addr) (c : Nat) (l : List S37) (Ab : Option Addr) (cb : Nat) (acts : List Act4) (a2 a3 : Int) (ha2 : 0 ≤ a2 ∧ a2 ≤ 255) (ha3 : 0 ≤ a3 ∧ a3 ≤ 255) (w : World) (hTab_ : Tabs_ w) (hC : Kd.C k37 w A l.length l) (hc : l.length ≤ c) (hCb : Kd.C kA w Ab acts.length acts) (hcb : acts.length ≤ cb) :
    Calls Tryd.prog 4 #[.slice A l.length c, .slice Ab acts.length cb, .int .u8 a2, .int .u8 a3] w fun e w' => e = .returned (.bool true) ∧ Below w.heap.size w w' := by
  have HTAB_ := Aside0.mk hTab_
  have HR := Aside0.mk hC
  have HCC := Aside0.mk hc
  have HRB := Aside0.mk hCb
  have HCB := Aside0.mk hcb
  have HA2 := Aside0.mk ha2
  have HA3 := Aside0.mk ha3
  clear hTab_ hC hc hCb hcb ha2 ha3
  obtain ⟨k, fb, hfb, hsz⟩ := few_f l
  have HF := Aside0.mk hfb
  have HSZ := Aside0.mk hsz
  clear hfb hsz
  go_enter Tryd.func4, Tryd.ntmps4
  go_upto_region 3 with (go_at_call 5; refine (usufructlaw12_awake.calls _ HTAB_.out).mono ?_; rintro e W1 ⟨rfl, hb⟩; have HB1 := Aside0.mk hb; clear hb)
  by_cases h8 : (8 : Int) < (l.length : Int)
  · have hd8 : decide ((8 : Int) < (l.length : Int)) = true := decide_eq_true h8
    clear h8
    go_wp2
    go_ret
    exact ⟨rfl, HB1.out⟩
  have hd8 : decide ((8 : Int) < (l.length : Int)) = false := decide_eq_false h8
  have H8 := Aside0.mk (show l.length ≤ 8 by omega)
  clear h8
  cases fb with
  | false =>
    go_wp2_with (go_at_call 6; refine (usufructlaw12_few.calls k A c l false _ (Kd.C_below HR.out HB1.out) HCC.out HF.out).mono ?_; rintro e W2 ⟨rfl, hd⟩; have HB2 := Aside0.mk (below_step HB1.out hd.below); clear hd)
    go_ret
    exact ⟨rfl, HB2.out⟩
  | true =>
    have HSZ2 := Aside0.mk (HSZ.out rfl)
    clear HSZ
    by_cases h5 : (50 : Int) < (acts.length : Int)
    · have hd5 : decide ((50 : Int) < (acts.length : Int)) = true := decide_eq_true h5
      clear h5
      go_wp2_with (go_at_call 6; refine (usufructlaw12_few.calls k A c l true _ (Kd.C_below HR.out HB1.out) HCC.out HF.out).mono ?_; rintro e W2 ⟨rfl, hd⟩; have HB2 := Aside0.mk (below_step HB1.out hd.below); clear hd)
      go_ret
      exact ⟨rfl, HB2.out⟩
    have hd5 : decide ((50 : Int) < (acts.length : Int)) = false := decide_eq_false h5
    have H5 := Aside0.mk (show acts.length ≤ 50 by omega)
    clear h5
    go_upto_region 6 with (first | (go_at_call 6; refine (usufructlaw12_few.calls k A c l true _ (Kd.C_below HR.out HB1.out) HCC.out HF.out).mono ?_; rintro e W2 ⟨rfl, hd⟩; have HB2 := Aside0.mk (below_step HB1.out hd.below); clear hd) | (go_at_call 7; refine (guard_New.calls A c l _ (HTAB_.out.below HB2.out) (Kd.C_below HR.out HB2.out) HCC.out HSZ2.out (by have := H8.out; omega)).mono ?_; rintro e w3 ⟨p, at_, er, rfl, hp, _, hb⟩; have HP := Aside0.mk hp; have HB3 := Aside0.mk (below_step HB2.out hb); have HB23 := Aside0.mk hb; clear hb hp))
    by_cases he : er = 0
    rotate_left
    · have hde : (er != 0) = true := bne_iff_ne.mpr he
      have hp := HP.out
      unfold NewGd at hp
      rw [if_neg he] at hp
      subst hp
      clear he HP
      go_wp2
      go_ret
      exact ⟨rfl, HB3.out⟩
    subst he
    have hp := HP.out
    unfold NewGd at hp
    rw [if_pos rfl] at hp
    obtain ⟨g, gs0, rfl, hG, hmap, hfl, _⟩ := hp
    have HG0 := Aside0.mk hG
    have HM0 := Aside0.mk hmap
    have HF0 := Aside0.mk (show FlOk gs0 from fun x hx => by
      have h1 := hG.ok x hx
      unfold okP at h1
      have h2 := hfl x hx
      omega)
    have HBW := Aside0.mk HB2.out
    clear hG hmap hfl HP
    have HLG := Aside0.mk (show gs0.length = l.length by have h := congrArg List.length HM0.out; rwa [List.length_map] at h)
    by_cases hl0 : l.length = 0
    · have hdl : ((l.length : Int) == 0) = true := beq_iff_eq.mpr (by omega)
      have HOUT := Aside0.mk (show outR gs0.length 0 from .inr (by have := HLG.out; omega))
      clear hl0
      go_wp2_with (go_at_call 11; refine (guard_Restore_none W2 _ g gs0 0 0 HG0.out HOUT.out).mono ?_; rintro e w4 ⟨rfl, hb⟩; have HB4 := Aside0.mk (below_step HB3.out hb); clear hb)
      go_ret
      exact ⟨rfl, HB4.out⟩
    have hdl : ((l.length : Int) == 0) = false := beq_eq_false_iff_ne.mpr (by omega)
    have HL0 := Aside0.mk hl0
    clear hl0
    go_wp2
    go_loopw [12] (fun v12 W => ∃ (j : Nat) (gs : List Gt), j ≤ acts.length ∧ v12 = .int .i64 (j : Int) ∧ Aside0 (IsGd W2 W g gs) ∧ Aside0 (gs.map Gt.p = l) ∧ Aside0 (FlOk gs) ∧ Aside0 (Below W2.heap.size W2 W)) (fun v12 _ => acts.length - (intOf v12).toNat)
    case atStart => exact ⟨0, gs0, Nat.zero_le _, rfl, HG0, HM0, HF0, HB23⟩
    case round =>
      clear HG0 HM0 HF0 HB23 HB3 HLG
      obtain ⟨j, gs, hj, rfl, HG, HM, HFL, HB⟩ := hrel
      by_cases hlt : j < acts.length
      · obtain ⟨ad, e, _, x1, x2, x3⟩ := at_A HRB.out (j : Int) (by omega) (by omega)
        cases e
        have HBW3 := Aside0.mk (HBW.out.trans (HB.out.mono HBW.out.size))
        have HX := Aside0.mk (And.intro x1 (And.intro x2 x3))
        replace x1 := (HBW3.out.cell (World.block_lt_of_cell? w _ x1)).trans x1
        replace x2 := (HBW3.out.cell (World.block_lt_of_cell? w _ x2)).trans x2
        generalize rdA acts (j : Int) = ac at *
        have HLT := Aside0.mk hlt
        obtain ⟨i, hi⟩ : ∃ i : Int, (j : Int) = i := ⟨_, rfl⟩
        have HI := Aside0.mk hi
        have hp1 : (0 ≤ i) = True := eq_true (by omega)
        have hq1 : (i < (acts.length : Int)) = True := eq_true (by omega)
        have hd1 : decide (i < (acts.length : Int)) = true := decide_eq_true (by omega)
        have HK := Aside0.mk (show wrap64 (i + 1) = ((j + 1 : Nat) : Int) by unfold wrap64; have := H5.out; omega)
        rw [hi] at x1 x2 HX ⊢
        clear hi hlt hj x3
        obtain ⟨a0, a1, a2', a3'⟩ := ac
        dsimp only at x1 x2
        obtain ⟨er, her⟩ := SendR.ex HG.out a1 a2'
        have HER := Aside0.mk her
        clear her
        go_upto_region 13 with (fail)
        refine start_ (n := 12) (S := fun w' => w'.cell? ⟨(ad.add (i.toNat * 4)).block, (ad.add (i.toNat * 4)).off + 1, none⟩ = some (.int .i64 a1) ∧ w'.cell? ⟨(ad.add (i.toNat * 4)).block, (ad.add (i.toNat * 4)).off + 2, none⟩ = some (.int .i64 a2')) (ds := [11]) #[false, false, false, false, false, false, false, false, false, false, false, false] (by kernel_rfl) rfl rfl ⟨x1, x2⟩ (fun hHeld => ?_)
        refine pure_ (i := 0) (N := some 57) (v := ?_) (a' := ?_) #[true, false, false, false, false, false, false, false, false, false, false, false] rfl rfl (by kernel_rfl) (fun _ _ _ h => h) (Or.inl ⟨by rfl, ?_⟩) ?_ ?_
        rotate_left
        · intro w'
          go_simp
          with_reducible rfl
        rotate_left
        · simp only [Act.put, List.setIfInBounds_toArray, List.set_cons_zero, List.set_cons_succ, i64_w, i32_w]
          rfl
        refine pure_ (i := 1) (N := some 58) (v := ?_) (a' := ?_) #[true, true, false, false, false, false, false, false, false, false, false, false] rfl rfl (by kernel_rfl) (fun _ _ _ h => h) (Or.inl ⟨by rfl, ?_⟩) ?_ ?_
        rotate_left
        · intro w'
          go_simp
          with_reducible rfl
        rotate_left
        · simp only [Act.put, List.setIfInBounds_toArray, List.set_cons_zero, List.set_cons_succ, i64_w, i32_w]
          rfl
        refine pure_ (i := 2) (N := some 59) (v := ?_) (a' := ?_) #[true, true, true, false, false, false, false, false, false, false, false, false] rfl rfl (by kernel_rfl) (fun _ _ _ h => h) (Or.inl ⟨by rfl, ?_⟩) ?_ ?_
        rotate_left
        · intro w'
          go_simp
          with_reducible rfl
        rotate_left
        · simp only [Act.put, List.setIfInBounds_toArray, List.set_cons_zero, List.set_cons_succ, i64_w, i32_w]
          rfl
        refine pure_ (i := 3) (N := some 60) (v := ?_) (a' := ?_) #[true, true, true, true, false, false, false, false, false, false, false, false] rfl rfl (by kernel_rfl) (fun _ _ _ h => h) (Or.inl ⟨by rfl, ?_⟩) ?_ ?_
        rotate_left
        · intro w'
          go_simp
          with_reducible rfl
        rotate_left
        · simp only [Act.put, List.setIfInBounds_toArray, List.set_cons_zero, List.set_cons_succ, i64_w, i32_w]
          rfl
        refine pure_ (i := 4) (N := some 61) (v := ?_) (a' := ?_) #[true, true, true, true, true, false, false, false, false, false, false, false] rfl rfl (by kernel_rfl) (fun _ _ _ h => h) (Or.inl ⟨by rfl, ?_⟩) ?_ ?_
        rotate_left
        · intro w'
          go_simp
          with_reducible rfl
        rotate_left
        · simp only [Act.put, List.setIfInBounds_toArray, List.set_cons_zero, List.set_cons_succ, i64_w, i32_w]
          rfl
        refine pure_ (i := 6) (N := some 63) (v := ?_) (a' := ?_) #[true, true, true, true, true, false, true, false, false, false, false, false] rfl rfl (by kernel_rfl) (fun _ _ _ h => h) (Or.inl ⟨by rfl, ?_⟩) ?_ ?_
        rotate_left
        · intro w'
          go_simp
          with_reducible rfl
        rotate_left
        · simp only [Act.put, List.setIfInBounds_toArray, List.set_cons_zero, List.set_cons_succ, i64_w, i32_w]
          rfl
        refine pure_ (i := 7) (N := some 64) (v := ?_) (a' := ?_) #[true, true, true, true, true, false, true, true, false, false, false, false] rfl rfl (by kernel_rfl) (fun _ _ _ h => h) (Or.inl ⟨by rfl, ?_⟩) ?_ ?_
        rotate_left
        · intro w'
          go_simp
          with_reducible rfl
        rotate_left
        · simp only [Act.put, List.setIfInBounds_toArray, List.set_cons_zero, List.set_cons_succ, i64_w, i32_w]
          rfl
        refine pure_ (i := 8) (N := some 65) (v := ?_) (a' := ?_) #[true, true, true, true, true, false, true, true, true, false, false, false] rfl rfl (by kernel_rfl) (fun _ _ _ h => h) (Or.inl ⟨by rfl, ?_⟩) ?_ ?_
        rotate_left
        · intro w'
          go_simp
          with_reducible rfl
        rotate_left
        · simp only [Act.put, List.setIfInBounds_toArray, List.set_cons_zero, List.set_cons_succ, i64_w, i32_w]
          rfl
        refine pure_ (i := 9) (N := some 66) (v := ?_) (a' := ?_) #[true, true, true, true, true, false, true, true, true, true, false, false] rfl rfl (by kernel_rfl) (fun _ _ _ h => h) (Or.inl ⟨by rfl, ?_⟩) ?_ ?_
        rotate_left
        · intro w'
          go_simp
          with_reducible rfl
        rotate_left
        · simp only [Act.put, List.setIfInBounds_toArray, List.set_cons_zero, List.set_cons_succ, i64_w, i32_w]
          rfl
        refine take_ (i := 5) (N := some 62) (v := ?_) (a' := ?_) #[true, true, true, true, true, true, true, true, true, true, false, false] rfl rfl (by kernel_rfl) (fun _ _ _ h => h) (Or.inl ⟨by rfl, ?_⟩) hHeld ?_ ?_
        rotate_left
        · rintro w' ⟨s0, s1⟩
          go_simp
          with_reducible rfl
        rotate_left
        · simp only [Act.put, List.setIfInBounds_toArray, List.set_cons_zero, List.set_cons_succ, i64_w, i32_w]
          rfl
        refine take_ (i := 10) (N := some 67) (v := ?_) (a' := ?_) #[true, true, true, true, true, true, true, true, true, true, true, false] rfl rfl (by kernel_rfl) (fun _ _ _ h => h) (Or.inl ⟨by rfl, ?_⟩) hHeld ?_ ?_
        rotate_left
        · rintro w' ⟨s0, s1⟩
          go_simp
          with_reducible rfl
        rotate_left
        · simp only [Act.put, List.setIfInBounds_toArray, List.set_cons_zero, List.set_cons_succ, i64_w, i32_w]
          rfl
        refine last_ (i := 11) (N := some 68) #[true, true, true, true, true, true, true, true, true, true, true, true] rfl rfl (by kernel_rfl) (by decide) (fun K hK => ?_)
        refine goes_ Tryd.func9 (by kernel_rfl) rfl #[.pointer (some ⟨g, 0, none⟩), .int .i64 a1, .int .i64 a2'] (by rfl) rfl rfl (by simp only [List.map_toArray, List.map_cons, List.map_nil]; rfl) ?_
        with_reducible refine (g_Send W2 _ g gs a1 a2' er (HG.out.below (below_drew1 (Below.refl _ _))) (below_step HB.out (below_drew1 (Below.refl _ _))) HFL.out (HER.out.below (below_drew1 (Below.refl _ _)))).mono ?_
        rintro e W5 ⟨gs, rfl, hg, hb, hm, hf, hq⟩
        refine ⟨_, rfl, ?_⟩
        have HM5 := Aside0.mk (hm.trans HM.out)
        have HG5 := Aside0.mk hg
        have HB5 := Aside0.mk hb
        have HFL5 := Aside0.mk hf
        clear hg hb hm hf hq
        refine hK.out _ _ ?_
        clear hK K
        refine norm_ (a' := ?_) ?_ ?_
        rotate_left
        · show Act.put _ (some 68) _ = _
          simp only [Act.put, List.setIfInBounds_toArray, List.set_cons_zero, List.set_cons_succ, i64_w, i32_w]
          rfl
        refine done_ (by kernel_rfl) ?_
        clear hHeld x1 x2
        have HBW5 := Aside0.mk (HBW.out.trans (HB5.out.mono HBW.out.size))
        have x1 := (HBW5.out.cell (World.block_lt_of_cell? w _ HX.out.1)).trans HX.out.1
        have x2 := (HBW5.out.cell (World.block_lt_of_cell? w _ HX.out.2.1)).trans HX.out.2.1
        have x3 := (HBW5.out.cell (World.block_lt_of_cell? w _ HX.out.2.2)).trans HX.out.2.2
        dsimp only at x1 x2 x3
        go_upto_region 14 with (fail)
        refine start_ (n := 17) (S := fun w' => w'.cell? ⟨(ad.add (i.toNat * 4)).block, (ad.add (i.toNat * 4)).off + 1, none⟩ = some (.int .i64 a1) ∧ w'.cell? ⟨(ad.add (i.toNat * 4)).block, (ad.add (i.toNat * 4)).off + 2, none⟩ = some (.int .i64 a2') ∧ w'.cell? ⟨(ad.add (i.toNat * 4)).block, (ad.add (i.toNat * 4)).off + 3, none⟩ = some (.int .i64 a3')) (ds := [16]) #[false, false, false, false, false, false, false, false, false, false, false, false, false, false, false, false, false] (by kernel_rfl) rfl rfl ⟨x1, x2, x3⟩ (fun hHeld => ?_)
        refine pure_ (i := 0) (N := some 69) (v := ?_) (a' := ?_) #[true, false, false, false, false, false, false, false, false, false, false, false, false, false, false, false, false] rfl rfl (by kernel_rfl) (fun _ _ _ h => h) (Or.inl ⟨by rfl, ?_⟩) ?_ ?_
        rotate_left
        · intro w'
          go_simp
          with_reducible rfl
        rotate_left
        · simp only [Act.put, List.setIfInBounds_toArray, List.set_cons_zero, List.set_cons_succ, i64_w, i32_w]
          rfl
        refine pure_ (i := 1) (N := some 70) (v := ?_) (a' := ?_) #[true, true, false, false, false, false, false, false, false, false, false, false, false, false, false, false, false] rfl rfl (by kernel_rfl) (fun _ _ _ h => h) (Or.inl ⟨by rfl, ?_⟩) ?_ ?_
        rotate_left
        · intro w'
          go_simp
          with_reducible rfl
        rotate_left
        · simp only [Act.put, List.setIfInBounds_toArray, List.set_cons_zero, List.set_cons_succ, i64_w, i32_w]
          rfl
        refine pure_ (i := 2) (N := some 71) (v := ?_) (a' := ?_) #[true, true, true, false, false, false, false, false, false, false, false, false, false, false, false, false, false] rfl rfl (by kernel_rfl) (fun _ _ _ h => h) (Or.inl ⟨by rfl, ?_⟩) ?_ ?_
        rotate_left
        · intro w'
          go_simp
          with_reducible rfl
        rotate_left
        · simp only [Act.put, List.setIfInBounds_toArray, List.set_cons_zero, List.set_cons_succ, i64_w, i32_w]
          rfl
        refine pure_ (i := 3) (N := some 72) (v := ?_) (a' := ?_) #[true, true, true, true, false, false, false, false, false, false, false, false, false, false, false, false, false] rfl rfl (by kernel_rfl) (fun _ _ _ h => h) (Or.inl ⟨by rfl, ?_⟩) ?_ ?_
        rotate_left
        · intro w'
          go_simp
          with_reducible rfl
        rotate_left
        · simp only [Act.put, List.setIfInBounds_toArray, List.set_cons_zero, List.set_cons_succ, i64_w, i32_w]
          rfl
        refine pure_ (i := 4) (N := some 73) (v := ?_) (a' := ?_) #[true, true, true, true, true, false, false, false, false, false, false, false, false, false, false, false, false] rfl rfl (by kernel_rfl) (fun _ _ _ h => h) (Or.inl ⟨by rfl, ?_⟩) ?_ ?_
        rotate_left
        · intro w'
          go_simp
          with_reducible rfl
        rotate_left
        · simp only [Act.put, List.setIfInBounds_toArray, List.set_cons_zero, List.set_cons_succ, i64_w, i32_w]
          rfl
        refine pure_ (i := 6) (N := some 75) (v := ?_) (a' := ?_) #[true, true, true, true, true, false, true, false, false, false, false, false, false, false, false, false, false] rfl rfl (by kernel_rfl) (fun _ _ _ h => h) (Or.inl ⟨by rfl, ?_⟩) ?_ ?_
        rotate_left
        · intro w'
          go_simp
          with_reducible rfl
        rotate_left
        · simp only [Act.put, List.setIfInBounds_toArray, List.set_cons_zero, List.set_cons_succ, i64_w, i32_w]
          rfl
        refine pure_ (i := 7) (N := some 76) (v := ?_) (a' := ?_) #[true, true, true, true, true, false, true, true, false, false, false, false, false, false, false, false, false] rfl rfl (by kernel_rfl) (fun _ _ _ h => h) (Or.inl ⟨by rfl, ?_⟩) ?_ ?_
        rotate_left
        · intro w'
          go_simp
          with_reducible rfl
        rotate_left
        · simp only [Act.put, List.setIfInBounds_toArray, List.set_cons_zero, List.set_cons_succ, i64_w, i32_w]
          rfl
        refine pure_ (i := 8) (N := some 77) (v := ?_) (a' := ?_) #[true, true, true, true, true, false, true, true, true, false, false, false, false, false, false, false, false] rfl rfl (by kernel_rfl) (fun _ _ _ h => h) (Or.inl ⟨by rfl, ?_⟩) ?_ ?_
        rotate_left
        · intro w'
          go_simp
          with_reducible rfl
        rotate_left
        · simp only [Act.put, List.setIfInBounds_toArray, List.set_cons_zero, List.set_cons_succ, i64_w, i32_w]
          rfl
        refine pure_ (i := 9) (N := some 78) (v := ?_) (a' := ?_) #[true, true, true, true, true, false, true, true, true, true, false, false, false, false, false, false, false] rfl rfl (by kernel_rfl) (fun _ _ _ h => h) (Or.inl ⟨by rfl, ?_⟩) ?_ ?_
        rotate_left
        · intro w'
          go_simp
          with_reducible rfl
        rotate_left
        · simp only [Act.put, List.setIfInBounds_toArray, List.set_cons_zero, List.set_cons_succ, i64_w, i32_w]
          rfl
        refine pure_ (i := 11) (N := some 80) (v := ?_) (a' := ?_) #[true, true, true, true, true, false, true, true, true, true, false, true, false, false, false, false, false] rfl rfl (by kernel_rfl) (fun _ _ _ h => h) (Or.inl ⟨by rfl, ?_⟩) ?_ ?_
        rotate_left
        · intro w'
          go_simp
          with_reducible rfl
        rotate_left
        · simp only [Act.put, List.setIfInBounds_toArray, List.set_cons_zero, List.set_cons_succ, i64_w, i32_w]
          rfl
        refine pure_ (i := 12) (N := some 81) (v := ?_) (a' := ?_) #[true, true, true, true, true, false, true, true, true, true, false, true, true, false, false, false, false] rfl rfl (by kernel_rfl) (fun _ _ _ h => h) (Or.inl ⟨by rfl, ?_⟩) ?_ ?_
        rotate_left
        · intro w'
          go_simp
          with_reducible rfl
        rotate_left
        · simp only [Act.put, List.setIfInBounds_toArray, List.set_cons_zero, List.set_cons_succ, i64_w, i32_w]
          rfl
        refine pure_ (i := 13) (N := some 82) (v := ?_) (a' := ?_) #[true, true, true, true, true, false, true, true, true, true, false, true, true, true, false, false, false] rfl rfl (by kernel_rfl) (fun _ _ _ h => h) (Or.inl ⟨by rfl, ?_⟩) ?_ ?_
        rotate_left
        · intro w'
          go_simp
          with_reducible rfl
        rotate_left
        · simp only [Act.put, List.setIfInBounds_toArray, List.set_cons_zero, List.set_cons_succ, i64_w, i32_w]
          rfl
        refine pure_ (i := 14) (N := some 83) (v := ?_) (a' := ?_) #[true, true, true, true, true, false, true, true, true, true, false, true, true, true, true, false, false] rfl rfl (by kernel_rfl) (fun _ _ _ h => h) (Or.inl ⟨by rfl, ?_⟩) ?_ ?_
        rotate_left
        · intro w'
          go_simp
          with_reducible rfl
        rotate_left
        · simp only [Act.put, List.setIfInBounds_toArray, List.set_cons_zero, List.set_cons_succ, i64_w, i32_w]
          rfl
        refine take_ (i := 5) (N := some 74) (v := ?_) (a' := ?_) #[true, true, true, true, true, true, true, true, true, true, false, true, true, true, true, false, false] rfl rfl (by kernel_rfl) (fun _ _ _ h => h) (Or.inl ⟨by rfl, ?_⟩) hHeld ?_ ?_
        rotate_left
        · rintro w' ⟨s0, s1, s2⟩
          go_simp
          with_reducible rfl
        rotate_left
        · simp only [Act.put, List.setIfInBounds_toArray, List.set_cons_zero, List.set_cons_succ, i64_w, i32_w]
          rfl
        refine take_ (i := 10) (N := some 79) (v := ?_) (a' := ?_) #[true, true, true, true, true, true, true, true, true, true, true, true, true, true, true, false, false] rfl rfl (by kernel_rfl) (fun _ _ _ h => h) (Or.inl ⟨by rfl, ?_⟩) hHeld ?_ ?_
        rotate_left
        · rintro w' ⟨s0, s1, s2⟩
          go_simp
          with_reducible rfl
        rotate_left
        · simp only [Act.put, List.setIfInBounds_toArray, List.set_cons_zero, List.set_cons_succ, i64_w, i32_w]
          rfl
        refine take_ (i := 15) (N := some 84) (v := ?_) (a' := ?_) #[true, true, true, true, true, true, true, true, true, true, true, true, true, true, true, true, false] rfl rfl (by kernel_rfl) (fun _ _ _ h => h) (Or.inl ⟨by rfl, ?_⟩) hHeld ?_ ?_
        rotate_left
        · rintro w' ⟨s0, s1, s2⟩
          go_simp
          with_reducible rfl
        rotate_left
        · simp only [Act.put, List.setIfInBounds_toArray, List.set_cons_zero, List.set_cons_succ, i64_w, i32_w]
          rfl
        refine last_ (i := 16) (N := some 85) #[true, true, true, true, true, true, true, true, true, true, true, true, true, true, true, true, true] rfl rfl (by kernel_rfl) (by decide) (fun K hK => ?_)
        refine goes_ Tryd.func10 (by kernel_rfl) rfl #[.pointer (some ⟨g, 0, none⟩), .int .i64 a1, .int .i64 a2', .int .i64 a3'] (by rfl) rfl rfl (by simp only [List.map_toArray, List.map_cons, List.map_nil]; rfl) ?_
        with_reducible refine (g_Over W2 _ g gs a1 a2' a3' (HG5.out.below (below_drew1 (Below.refl _ _))) (below_step HB5.out (below_drew1 (Below.refl _ _))) HFL5.out).mono ?_
        rintro e W6 ⟨er', gs, rfl, hg, hb, hm, hf, hq⟩
        refine ⟨_, rfl, ?_⟩
        have HM6 := Aside0.mk (hm.trans HM5.out)
        have HG6 := Aside0.mk hg
        have HB6 := Aside0.mk hb
        have HFL6 := Aside0.mk hf
        clear hg hb hm hf hq
        refine hK.out _ _ ?_
        clear hK K
        refine norm_ (a' := ?_) ?_ ?_
        rotate_left
        · show Act.put _ (some 85) _ = _
          simp only [Act.put, List.setIfInBounds_toArray, List.set_cons_zero, List.set_cons_succ, i64_w, i32_w]
          rfl
        refine done_ (by kernel_rfl) ?_
        clear hHeld x1 x2 x3
        go_wp2
        go_roundw
        case rel => exact ⟨j + 1, gs, by have := HLT.out; omega, by rw [HK.out], HG6, HM6, HFL6, HB6⟩
        case measure => have := HI.out; have := HLT.out; simp [intOf, HK.out]; omega
      have hjl : j = acts.length := by omega
      subst hjl
      have hd1 : decide ((acts.length : Int) < (acts.length : Int)) = false := decide_eq_false (by omega)
      clear hlt hj
      have HLG := Aside0.mk (show gs.length = l.length by have h := congrArg List.length HM.out; rwa [List.length_map] at h)
      have hzz : (l.length : Int) ≠ 0 := by have := HL0.out; omega
      have hk0 : 0 ≤ (wrap64 a2).tmod (l.length : Int) ∧ (wrap64 a2).tmod (l.length : Int) < (l.length : Int) := by
        have h1 := HA2.out
        have e : wrap64 a2 = a2 := by unfold wrap64; omega
        rw [e, Int.tmod_eq_emod_of_nonneg h1.1]
        exact ⟨Int.emod_nonneg _ hzz, Int.emod_lt_of_pos _ (by omega)⟩
      have hn0 : 0 ≤ (wrap64 a3).tmod 50 ∧ (wrap64 a3).tmod 50 < 50 := by
        have h1 := HA3.out
        have e : wrap64 a3 = a3 := by unfold wrap64; omega
        rw [e, Int.tmod_eq_emod_of_nonneg h1.1]
        exact ⟨Int.emod_nonneg _ (by decide), Int.emod_lt_of_pos _ (by decide)⟩
      go_upto_region 17 with (fail)
      generalize (wrap64 a2).tmod (l.length : Int) = ki at *
      generalize (wrap64 a3).tmod 50 = n at *
      have HKI := Aside0.mk hk0
      have HNI := Aside0.mk hn0
      obtain ⟨kk, hkk⟩ : ∃ kk : Nat, ki.toNat = kk := ⟨_, rfl⟩
      have HKK := Aside0.mk hkk
      have hkl : kk < l.length := by omega
      have hkg : kk < gs.length := by have := HLG.out; omega
      obtain ⟨ad2, e2, _, y1, _⟩ := at_T37 HR.out ki (by omega) (by omega)
      subst e2
      have HBq3 := Aside0.mk (HBW.out.trans (HB.out.mono HBW.out.size))
      replace y1 := (HBq3.out.cell (World.block_lt_of_cell? w _ y1)).trans y1
      have hsp : (rd_T37 l ki).f1 = gs[kk].p.f1 := by
        have h1 : l[kk] = gs[kk].p := by
          have h2 : (gs.map Gt.p)[kk]? = l[kk]? := by rw [HM.out]
          rw [List.getElem?_map, List.getElem?_eq_getElem hkg, List.getElem?_eq_getElem hkl] at h2
          exact (Option.some.inj h2).symm
        unfold rd_T37
        rw [hkk, List.getD_eq_getElem?_getD, List.getElem?_eq_getElem hkl, ← h1]
        rfl
      rw [hsp] at y1
      have HKG := Aside0.mk hkg
      have HNO := Aside0.mk (fun W (h : IsGd W2 W g gs) (hb : Below W2.heap.size W2 W) hf => guard_Restore_no W2 W g gs kk hkg ki hkk hk0.1 n h hb hf)
      have HOK := Aside0.mk (fun W (h : IsGd W2 W g gs) (hb : Below W2.heap.size W2 W) h0 h1 => guard_Restore_ok W2 W g gs kk hkg ki hkk hk0.1 n h hb h0 h1)
      have hp3 : (0 ≤ ki) = True := eq_true hk0.1
      have hq3 : (ki < (l.length : Int)) = True := eq_true hk0.2
      generalize gs[kk].p = pk at *
      clear hkk hkl hkg hsp hk0 hn0 hzz
      by_cases hgt : pk.f1 < n
      · have hd4 : decide (pk.f1 < n) = true := decide_eq_true hgt
        have HGT := Aside0.mk hgt
        clear hgt
        go_wp2_with (go_at_call 11; refine (HNO.out _ HG.out HB.out (.inr HGT.out)).mono ?_; rintro e w5 ⟨rfl, _, hb, _⟩; have HB5 := Aside0.mk (HBW.out.trans (hb.mono HBW.out.size)); clear hb)
        go_ret
        exact ⟨rfl, HB5.out⟩
      have hd4 : decide (pk.f1 < n) = false := decide_eq_false hgt
      have HGT := Aside0.mk (show n ≤ pk.f1 by omega)
      clear hgt
      go_wp2_with (first | (go_at_call 11; (refine (HOK.out _ HG.out HB.out HNI.out.1 HGT.out).mono ?_; rintro e w5 ⟨b', rfl, hg, hk, hb, _⟩; have HG5 := Aside0.mk hg; have HK5 := Aside0.mk hk; have HB5 := Aside0.mk hb; clear hg hk hb)) | (go_at_call 12; (refine (flying_at W2 _ g gs kk HKG.out ki HKK.out HKI.out.1 ⟨b', pk, n⟩ HG5.out).mono ?_; rintro e w6 ⟨rfl, hb⟩; have HG6 := Aside0.mk (HG5.out.below hb); have HK6 := Aside0.mk (HK5.out.below hb); have HB6 := Aside0.mk (below_step HB5.out hb); clear hb)) | (go_at_call 8; (refine (state_at W2 _ g gs kk HKG.out ki HKK.out HKI.out.1 ⟨b', pk, n⟩ HG6.out HB6.out HK6.out).mono ?_; rintro e w7 ⟨rfl, hg, hb⟩; have HG7 := Aside0.mk hg; have HB7 := Aside0.mk hb; clear hg hb)))
      go_loopw [15] (fun v15 W => ∃ m : Nat, (m : Int) ≤ n ∧ v15 = .int .i64 (m : Int) ∧ Aside0 (IsGd W2 W g (gs.set kk ⟨b', pk, n - m⟩)) ∧ Aside0 (Below W2.heap.size W2 W)) (fun v15 _ => n.toNat - (intOf v15).toNat)
      case atStart => exact ⟨0, HNI.out.1, rfl, ⟨by rw [Int.natCast_zero, Int.sub_zero]; exact HG7.out⟩, HB7⟩
      case round =>
        clear HG5 HK5 HB5 HG6 HK6 HB6 HG7 HB7
        obtain ⟨m, hm, rfl, HGm, HBm⟩ := hrel
        by_cases hlt : (m : Int) < n
        · obtain ⟨mi, hmi⟩ : ∃ mi : Int, (m : Int) = mi := ⟨_, rfl⟩
          have HMI := Aside0.mk hmi
          rw [hmi] at hlt HGm ⊢
          have hd5' : decide (mi < n) = true := decide_eq_true hlt
          have HLTm := Aside0.mk hlt
          have HKm := Aside0.mk (show wrap64 (mi + 1) = ((m + 1 : Nat) : Int) by have := HNI.out; unfold wrap64; omega)
          clear hmi hlt hm
          go_wp2_with (go_at_call 10; (refine (over_pos W2 _ g gs kk HKG.out ki HKK.out HKI.out.1 ⟨b', pk, n - mi⟩ HGm.out HBm.out (by have := HNI.out; have := HLTm.out; have := HMI.out; dsimp only; omega)).mono ?_; rintro e w8 ⟨rfl, hg, hb⟩; have HG8 := Aside0.mk hg; have HB8 := Aside0.mk hb; clear hg hb))
          go_roundw
          case rel => exact ⟨m + 1, by have := HLTm.out; have := HMI.out; omega, by rw [HKm.out], ⟨by have h := HG8.out; rw [show n - ((m + 1 : Nat) : Int) = n - mi - 1 by have := HMI.out; omega]; exact h⟩, HB8⟩
          case measure => have := HMI.out; have := HLTm.out; simp [intOf, HKm.out]; omega
        · have hmn : (m : Int) = n := by omega
          have hd5' : decide ((m : Int) < n) = false := decide_eq_false hlt
          have HZ := Aside0.mk (show n - (m : Int) = 0 by omega)
          clear hlt hm hmn
          go_wp2_with (go_at_call 10; (refine (over_zero W2 _ g gs kk HKG.out ki HKK.out HKI.out.1 ⟨b', pk, n - m⟩ HGm.out HBm.out HZ.out).mono ?_; rintro e w8 ⟨rfl, hb⟩; have HB8 := Aside0.mk (HBW.out.trans (hb.mono HBW.out.size)); clear hb))
          go_ret
          exact ⟨rfl, HB8.out⟩
end Go.Proofs.YtjefllmaffialaaDoor.Q
