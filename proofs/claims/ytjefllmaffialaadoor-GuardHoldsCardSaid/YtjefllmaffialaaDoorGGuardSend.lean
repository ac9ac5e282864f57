/- guard: fresh, May, Send, Over, Restore of a party. -/
import Derived.Test.YtjefllmaffialaaDoorGGuardGate
namespace Go.Proofs.YtjefllmaffialaaDoor.Q
open Go.RowKit Go.Shelf Go.Proofs.YtjefllmaffialaaDoorW.PrintWords Go.Proofs.YtjefllmaffialaaDoorW.PrintLast Go.Proofs.YtjefllmaffialaaDoorW.PrintMore
set_option linter.unusedVariables false
set_option linter.unusedSimpArgs false

def freshK (p : S37) : Bk := ⟨p.f2, p.f3, p.f4, 0, 0, 0, 0⟩
set_option maxRecDepth 100000 in
set_option maxHeartbeats 2000000 in
theorem guard_fresh_ok (w0 w : World) (p : S37) (hp : newOk p.f2 p.f3 p.f4 = true) (hb : Below w0.heap.size w0 w) :
    Calls Tryd.prog 16 #[.agg #[.string p.f0, .int .i64 p.f1, .int .i64 p.f2, .int .i64 p.f3, .int .i64 p.f4]] w fun e w' => ∃ b, e = .returned (.pointer (some ⟨b, 0, none⟩)) ∧ IsB w0 w' b (freshK p) ∧ Below w.heap.size w w' := by
  have HP := Aside0.mk hp
  have HB := Aside0.mk hb
  clear hp hb
  go_enter Tryd.func16, Tryd.ntmps16
  go_upto_region 1 with (fail)
  have hz := blk_new w (.cells #[.string p.f0, .int .i64 p.f1, .int .i64 p.f2, .int .i64 p.f3, .int .i64 p.f4] 37)
  have hb1 : Below w.heap.size w (w.alloc (.cells #[.string p.f0, .int .i64 p.f1, .int .i64 p.f2, .int .i64 p.f3, .int .i64 p.f4] 37)) := below_alloc (Below.refl _ _) _
  generalize w.alloc (.cells #[.string p.f0, .int .i64 p.f1, .int .i64 p.f2, .int .i64 p.f3, .int .i64 p.f4] 37) = W1 at *
  obtain ⟨z, hzz⟩ : ∃ z, w.heap.size = z := ⟨_, rfl⟩
  have HB1 := Aside0.mk hb1
  rw [hzz] at hz ⊢
  have z2 : W1.cell? ⟨z, 2, none⟩ = some (.int .i64 p.f2) := (blk_cell hz 2).trans rfl
  have z3 : W1.cell? ⟨z, 3, none⟩ = some (.int .i64 p.f3) := (blk_cell hz 3).trans rfl
  have z4 : W1.cell? ⟨z, 4, none⟩ = some (.int .i64 p.f4) := (blk_cell hz 4).trans rfl
  have HZ := Aside0.mk hzz
  clear hz hb1 hzz
  go_wp2_with (go_at_call 24; (refine (breaker_New.calls p.f2 p.f3 p.f4 _ _ _ _ _ _ _ w0 _ (HB.out.trans (HB1.out.mono HB.out.size)) (by unfold breaker_New.f; rw [if_pos HP.out])).mono ?_; rintro e w2 ⟨b, rfl, hi, hb0, hb⟩; have HI := Aside0.mk hi; have HB2 := Aside0.mk (below_step HB1.out hb); clear hi hb0 hb))
  go_ret
  exact ⟨b, rfl, HI.out, HB2.out⟩
set_option maxRecDepth 100000 in
set_option maxHeartbeats 2000000 in
theorem guard_fresh_no (w : World) (p : S37) (hp : newOk p.f2 p.f3 p.f4 = false) :
    Calls Tryd.prog 16 #[.agg #[.string p.f0, .int .i64 p.f1, .int .i64 p.f2, .int .i64 p.f3, .int .i64 p.f4]] w fun e w' => e = .returned (.pointer none) ∧ Below w.heap.size w w' := by
  have HP := Aside0.mk hp
  clear hp
  go_enter Tryd.func16, Tryd.ntmps16
  go_upto_region 1 with (fail)
  have hz := blk_new w (.cells #[.string p.f0, .int .i64 p.f1, .int .i64 p.f2, .int .i64 p.f3, .int .i64 p.f4] 37)
  have hb1 : Below w.heap.size w (w.alloc (.cells #[.string p.f0, .int .i64 p.f1, .int .i64 p.f2, .int .i64 p.f3, .int .i64 p.f4] 37)) := below_alloc (Below.refl _ _) _
  generalize w.alloc (.cells #[.string p.f0, .int .i64 p.f1, .int .i64 p.f2, .int .i64 p.f3, .int .i64 p.f4] 37) = W1 at *
  obtain ⟨z, hzz⟩ : ∃ z, w.heap.size = z := ⟨_, rfl⟩
  have HB1 := Aside0.mk hb1
  rw [hzz] at hz ⊢
  have z2 : W1.cell? ⟨z, 2, none⟩ = some (.int .i64 p.f2) := (blk_cell hz 2).trans rfl
  have z3 : W1.cell? ⟨z, 3, none⟩ = some (.int .i64 p.f3) := (blk_cell hz 3).trans rfl
  have z4 : W1.cell? ⟨z, 4, none⟩ = some (.int .i64 p.f4) := (blk_cell hz 4).trans rfl
  have HZ := Aside0.mk hzz
  clear hz hb1 hzz
  go_wp2_with (go_at_call 24; (refine (breaker_New.none p.f2 p.f3 p.f4 _ HP.out).mono ?_; rintro e w2 ⟨rfl, hb⟩; have HB2 := Aside0.mk (below_step HB1.out hb); clear hb))
  go_ret
  exact ⟨rfl, HB2.out⟩

set_option maxRecDepth 100000 in
set_option maxHeartbeats 4000000 in
theorem guard_May_some (w0 w : World) (g : Nat) (gs : List Gt) (j : Nat) (hj : j < gs.length) (i : Int) (hi : i.toNat = j) (h0 : 0 ≤ i) (now : Int) (h : IsGd w0 w g gs) (hb : Below w0.heap.size w0 w) :
    Calls Tryd.prog 13 #[.pointer (some ⟨g, 0, none⟩), .int .i64 i, .int .i64 now] w fun e w' => ∃ k, e = .returned (.int .i64 (mayE gs[j] k now)) ∧ IsB w0 w' gs[j].b k ∧ IsB w0 w gs[j].b k ∧ IsGd w0 w' g gs ∧ Below w0.heap.size w0 w' ∧ K31 w w' := by
  obtain ⟨a, cap, m, hg, hc, _, ⟨k, hk⟩, _⟩ := h.row j hj i hi h0
  have HG := Aside0.mk hg
  have HI := Aside0.mk (And.intro h0 (show i < (gs.length : Int) by omega))
  have HC := Aside0.mk hc
  have HK := Aside0.mk hk
  have HH := Aside0.mk h
  have HB := Aside0.mk hb
  clear hg hc h h0 hi hk hb
  obtain ⟨me, hme⟩ : ∃ me, mayE gs[j] k now = me := ⟨_, rfl⟩
  have HME := Aside0.mk hme
  unfold mayE at hme
  go_enter Tryd.func13, Tryd.ntmps13
  go_upto_region 4 with (go_at_call 17; refine (guard_gate_some g _ cap a _ i _ HG.out HI.out.1 HI.out.2).mono ?_; rintro e w1 ⟨rfl, hb⟩; have HB1 := Aside0.mk (HB.out.trans (hb.mono HB.out.size)); have HH1 := Aside0.mk (HH.out.below hb); have HK1 := Aside0.mk (HK.out.below hb); have HQ1 := Aside0.mk (K31.of_below hb); have x0 : w1.cell? ⟨a, i.toNat * 7, none⟩ = some (.pointer (some ⟨gs[j].b, 0, none⟩)) := (hb.cell (World.block_lt_of_cell? w _ (HC.out 0 _ rfl))).trans (HC.out 0 _ rfl); have x2 : w1.cell? ⟨a, i.toNat * 7 + 2, none⟩ = some (.int .i64 gs[j].p.f1) := (hb.cell (World.block_lt_of_cell? w _ (HC.out 2 _ rfl))).trans (HC.out 2 _ rfl); have x6 : w1.cell? ⟨a, i.toNat * 7 + 6, none⟩ = some (.int .i64 gs[j].fl) := (hb.cell (World.block_lt_of_cell? w _ (HC.out 6 _ rfl))).trans (HC.out 6 _ rfl); clear hb)
  by_cases hf : gs[j].p.f1 ≤ gs[j].fl
  · have hd : decide (gs[j].p.f1 ≤ gs[j].fl) = true := decide_eq_true hf
    rw [if_pos hf] at hme
    subst hme
    clear hf
    go_quiet (fail)
    go_wp2
    go_ret
    exact ⟨k, by rw [HME.out]; rfl, (HK1.out.below (pw_below_drewN (Below.refl _ _) _)), HK.out, HH1.out.below (pw_below_drewN (Below.refl _ _) _), below_step HB1.out (pw_below_drewN (Below.refl _ _) _), HQ1.out.trans (K31.of_below (pw_below_drewN (Below.refl _ _) _))⟩
  · have hd : decide (gs[j].p.f1 ≤ gs[j].fl) = false := decide_eq_false hf
    rw [if_neg hf] at hme
    clear hf
    cases hmb : mayB k now with
    | true =>
      rw [hmb, if_pos rfl] at hme
      subst hme
      have HMB := Aside0.mk hmb
      clear hmb
      go_quiet (fail)
      go_wp2_with (go_at_call 22; (refine (b_May w0 _ gs[j].b k now (HK1.out.below (pw_below_drewN (Below.refl _ _) _)) (below_step HB1.out (pw_below_drewN (Below.refl _ _) _))).mono ?_; rw [HMB.out]; rintro e w2 ⟨rfl, hi, hb, hkp⟩; have HK2 := Aside0.mk hi; have HB2 := Aside0.mk hb; have HH2 := Aside0.mk ((HH1.out.below (pw_below_drewN (Below.refl _ _) _)).stepB (HK1.out.below (pw_below_drewN (Below.refl _ _) _)) hi hkp); have HQ2 := Aside0.mk ((HQ1.out.trans (K31.of_below (pw_below_drewN (Below.refl _ _) _))).trans (K31.of_keep (HK1.out.below (pw_below_drewN (Below.refl _ _) _)) hkp)); clear hi hb hkp))
      go_ret
      exact ⟨k, by rw [HME.out]; rfl, HK2.out, HK.out, HH2.out, HB2.out, HQ2.out⟩
    | false =>
      rw [hmb, if_neg (by decide)] at hme
      subst hme
      have HMB := Aside0.mk hmb
      clear hmb
      go_quiet (fail)
      go_wp2_with (go_at_call 22; (refine (b_May w0 _ gs[j].b k now (HK1.out.below (pw_below_drewN (Below.refl _ _) _)) (below_step HB1.out (pw_below_drewN (Below.refl _ _) _))).mono ?_; rw [HMB.out]; rintro e w2 ⟨rfl, hi, hb, hkp⟩; have HK2 := Aside0.mk hi; have HB2 := Aside0.mk hb; have HH2 := Aside0.mk ((HH1.out.below (pw_below_drewN (Below.refl _ _) _)).stepB (HK1.out.below (pw_below_drewN (Below.refl _ _) _)) hi hkp); have HQ2 := Aside0.mk ((HQ1.out.trans (K31.of_below (pw_below_drewN (Below.refl _ _) _))).trans (K31.of_keep (HK1.out.below (pw_below_drewN (Below.refl _ _) _)) hkp)); clear hi hb hkp))
      go_ret
      exact ⟨k, by rw [HME.out]; rfl, HK2.out, HK.out, HH2.out, HB2.out, HQ2.out⟩

/-- Behind Send. -/
def sendG (gs : List Gt) (j : Nat) (x : Gt) (e : Int) : List Gt := if e = 0 then gs.set j ⟨x.b, x.p, x.fl + 1⟩ else gs
set_option maxRecDepth 100000 in
set_option maxHeartbeats 2000000 in
theorem guard_Send_none (w0 w : World) (g : Nat) (gs : List Gt) (p now : Int) (h : IsGd w0 w g gs) (hp : outR gs.length p) :
    Calls Tryd.prog 9 #[.pointer (some ⟨g, 0, none⟩), .int .i64 p, .int .i64 now] w fun e w' => e = .returned (.int .i64 7) ∧ Below w.heap.size w w' := by
  have HH := Aside0.mk h
  have HP := Aside0.mk hp
  clear h hp
  go_enter Tryd.func9, Tryd.ntmps9
  go_wp2_with (go_at_call 13; refine (guard_May_none w0 _ g gs p now HH.out HP.out).mono ?_; rintro e w1 ⟨rfl, hb⟩; have HB1 := Aside0.mk hb; clear hb)
  go_ret
  exact ⟨rfl, HB1.out⟩
set_option maxRecDepth 100000 in
set_option maxHeartbeats 4000000 in
theorem guard_Send_some (w0 w : World) (g : Nat) (gs : List Gt) (j : Nat) (hj : j < gs.length) (i : Int) (hi : i.toNat = j) (h0 : 0 ≤ i) (now : Int) (h : IsGd w0 w g gs) (hb : Below w0.heap.size w0 w) (hf : 0 ≤ gs[j].fl ∧ gs[j].fl ≤ 10000) (k : Bk) (hk : IsB w0 w gs[j].b k) :
    Calls Tryd.prog 9 #[.pointer (some ⟨g, 0, none⟩), .int .i64 i, .int .i64 now] w fun e w' => e = .returned (.int .i64 (mayE gs[j] k now)) ∧ IsGd w0 w' g (sendG gs j gs[j] (mayE gs[j] k now)) ∧ Below w0.heap.size w0 w' ∧ K31 w w' := by
  have HH := Aside0.mk h
  have HB := Aside0.mk hb
  have HF := Aside0.mk hf
  have HK := Aside0.mk hk
  have HI := Aside0.mk (And.intro hi h0)
  have HJ := Aside0.mk hj
  obtain ⟨me, hme⟩ : ∃ me, mayE gs[j] k now = me := ⟨_, rfl⟩
  have HME := Aside0.mk hme
  rw [hme]
  clear h hb hf hk hi h0 hme
  by_cases he : me = 0
  rotate_left
  · have hd : (me == 0) = false := beq_eq_false_iff_ne.mpr he
    have HE := Aside0.mk (show sendG gs j gs[j] me = gs from if_neg he)
    clear he
    go_enter Tryd.func9, Tryd.ntmps9
    go_wp2_with (go_at_call 13; refine (guard_May_some w0 _ g gs j HJ.out i HI.out.1 HI.out.2 now HH.out HB.out).mono ?_; rintro e w1 ⟨k', rfl, hk1, hk0, hg1, hb1, hq1⟩; have HQ1 := Aside0.mk hq1; clear hq1; obtain rfl := HK.out.uniq hk0; rw [HME.out]; have HB1 := Aside0.mk hb1; have HH1 := Aside0.mk hg1; clear hk1 hk0 hg1 hb1)
    go_ret
    exact ⟨rfl, by rw [HE.out]; exact HH1.out, HB1.out, HQ1.out⟩
  · subst he
    have HE := Aside0.mk (show sendG gs j gs[j] 0 = gs.set j ⟨gs[j].b, gs[j].p, gs[j].fl + 1⟩ from if_pos rfl)
    have hw : wrap64 (gs[j].fl + 1) = gs[j].fl + 1 := by have := HF.out; unfold wrap64; omega
    go_enter Tryd.func9, Tryd.ntmps9
    go_upto_region 3 with (go_at_call 13; refine (guard_May_some w0 _ g gs j HJ.out i HI.out.1 HI.out.2 now HH.out HB.out).mono ?_; rintro e w1 ⟨k', rfl, hk1, hk0, hg1, hb1, hq1⟩; have HQ1 := Aside0.mk hq1; clear hq1; obtain rfl := HK.out.uniq hk0; rw [HME.out]; have HB1 := Aside0.mk hb1; have HH1 := Aside0.mk hg1; have HK1 := Aside0.mk hk1; clear hk1 hk0 hg1 hb1)
    obtain ⟨a, cap, m, hg, _⟩ := HH1.out.row j HJ.out i HI.out.1 HI.out.2
    have HG := Aside0.mk hg
    have HIL := Aside0.mk (show i < (gs.length : Int) by have := HI.out; have := HJ.out; omega)
    clear hg
    go_upto_region 4 with (go_at_call 17; refine (guard_gate_some g _ cap a _ i _ HG.out HI.out.2 HIL.out).mono ?_; rintro e w2 ⟨rfl, hb⟩; have HB2 := Aside0.mk (HB1.out.trans (hb.mono HB1.out.size)); have HH2 := Aside0.mk (HH1.out.below hb); have HK2 := Aside0.mk (HK1.out.below hb); have HG2 := Aside0.mk (blk_below HG.out hb); have HQ2 := Aside0.mk (HQ1.out.trans (K31.of_below hb)); clear hb)
    obtain ⟨hc, hfr, _, _, ha, hset, _, hga, hne, h31⟩ := HH2.out.rowAt j HJ.out i HI.out.1 HI.out.2 HG2.out
    have x6 : w2.cell? ⟨a, i.toNat * 7 + 6, none⟩ = some (.int .i64 gs[j].fl) := hc 6 _ rfl
    have fz := hfr 6
    have HH3 := Aside0.mk (hset (gs[j].fl + 1))
    have HB3 := Aside0.mk (HB2.out.setCell (p := ⟨a, i.toNat * 7 + 6, none⟩) ha (.int .i64 (gs[j].fl + 1)))
    have HK3 := Aside0.mk (show IsB w0 (w2.setCell ⟨a, i.toNat * 7 + 6, none⟩ (.int .i64 (gs[j].fl + 1))) gs[j].b k from ⟨blk_far HK2.out.1 (hne _ _ HK2.out) _, HK2.out.2⟩)
    have HG3 := Aside0.mk (blk_far HG2.out (p := ⟨a, i.toNat * 7 + 6, none⟩) hga (.int .i64 (gs[j].fl + 1)))
    have HQ3 := Aside0.mk (HQ2.out.trans (K31.set h31 (i.toNat * 7 + 6) (.int .i64 (gs[j].fl + 1))))
    clear hc hfr hset hne hga ha h31
    go_upto_region 5 with (fail)
    clear x6 fz
    generalize w2.setCell ⟨a, i.toNat * 7 + 6, none⟩ (.int .i64 (gs[j].fl + 1)) = W3 at *
    have hrow := HH3.out.rowAt j (by rw [List.length_set]; exact HJ.out) i HI.out.1 HI.out.2 HG3.out
    have x0 : W3.cell? ⟨a, i.toNat * 7, none⟩ = some (.pointer (some ⟨gs[j].b, 0, none⟩)) := by
      have h1 := hrow.1 0 _ rfl
      simp only [List.getElem_set_self] at h1
      exact h1
    clear hrow
    go_wp2_with (go_at_call 19; (refine (b_Send w0 _ gs[j].b k now HK3.out HB3.out).mono ?_; rintro e w4 ⟨r, k', rfl, hi, hb, hkp⟩; have HB4 := Aside0.mk hb; have HH4 := Aside0.mk (HH3.out.stepB HK3.out hi hkp); have HQ4 := Aside0.mk (HQ3.out.trans (K31.of_keep HK3.out hkp)); clear hi hb hkp))
    go_ret
    exact ⟨rfl, by rw [HE.out]; exact HH4.out, HB4.out, HQ4.out⟩
end Go.Proofs.YtjefllmaffialaaDoor.Q
