/- guard: Over and Restore. -/
import Derived.Test.YtjefllmaffialaaDoorGGuardSend
namespace Go.Proofs.YtjefllmaffialaaDoor.Q
open Go.RowKit Go.Shelf Go.Proofs.YtjefllmaffialaaDoorW.PrintWords Go.Proofs.YtjefllmaffialaaDoorW.PrintLast Go.Proofs.YtjefllmaffialaaDoorW.PrintMore
set_option linter.unusedVariables false
set_option linter.unusedSimpArgs false

def overE (x : Gt) (how : Int) : Int := if how < 0 ∨ 2 < how then 11 else if x.fl = 0 then 9 else 0
def overG (gs : List Gt) (j : Nat) (x : Gt) (e : Int) : List Gt := if e = 0 then gs.set j ⟨x.b, x.p, x.fl - 1⟩ else gs
set_option maxRecDepth 100000 in
set_option maxHeartbeats 2000000 in
theorem guard_Over_none (w0 w : World) (g : Nat) (gs : List Gt) (p now how : Int) (h : IsGd w0 w g gs) (hp : outR gs.length p) :
    Calls Tryd.prog 10 #[.pointer (some ⟨g, 0, none⟩), .int .i64 p, .int .i64 now, .int .i64 how] w fun e w' => e = .returned (.int .i64 7) ∧ Below w.heap.size w w' := by
  obtain ⟨A, cap, m, n, D, hg, hm⟩ := h.head
  have HG := Aside0.mk hg
  have HP := Aside0.mk hp
  clear hg hp hm h
  go_enter Tryd.func10, Tryd.ntmps10
  go_wp2_with (go_at_call 17; refine (guard_gate_none g _ cap A _ p _ HG.out HP.out).mono ?_; rintro e w1 ⟨rfl, hb⟩; have HB1 := Aside0.mk hb; clear hb)
  go_ret
  exact ⟨rfl, HB1.out⟩

set_option maxRecDepth 100000 in
set_option maxHeartbeats 4000000 in
theorem guard_Over_some (w0 w : World) (g : Nat) (gs : List Gt) (j : Nat) (hj : j < gs.length) (i : Int) (hi : i.toNat = j) (h0 : 0 ≤ i) (now how : Int) (h : IsGd w0 w g gs) (hb : Below w0.heap.size w0 w) (hf : 0 ≤ gs[j].fl ∧ gs[j].fl ≤ 10000) :
    Calls Tryd.prog 10 #[.pointer (some ⟨g, 0, none⟩), .int .i64 i, .int .i64 now, .int .i64 how] w fun e w' => e = .returned (.int .i64 (overE gs[j] how)) ∧ IsGd w0 w' g (overG gs j gs[j] (overE gs[j] how)) ∧ Below w0.heap.size w0 w' ∧ K31 w w' := by
  obtain ⟨a, cap, m, hg, hrow⟩ := h.row j hj i hi h0
  obtain ⟨k, hk⟩ := hrow.2.2.1
  have HG := Aside0.mk hg
  have HH := Aside0.mk h
  have HB := Aside0.mk hb
  have HF := Aside0.mk hf
  have HK := Aside0.mk hk
  have HI := Aside0.mk (And.intro hi h0)
  have HIL := Aside0.mk (show i < (gs.length : Int) by omega)
  have HJ := Aside0.mk hj
  obtain ⟨me, hme⟩ : ∃ me, overE gs[j] how = me := ⟨_, rfl⟩
  rw [hme]
  unfold overE at hme
  clear h hb hf hi h0 hg hrow hk
  by_cases h1 : how < 0
  · rw [if_pos (.inl h1)] at hme
    subst hme
    have hd : decide (how < 0) = true := decide_eq_true h1
    clear h1
    go_enter Tryd.func10, Tryd.ntmps10
    go_wp2_with (go_at_call 17; refine (guard_gate_some g _ cap a _ i _ HG.out HI.out.2 HIL.out).mono ?_; rintro e w1 ⟨rfl, hb⟩; have HB1 := Aside0.mk (HB.out.trans (hb.mono HB.out.size)); have HH1 := Aside0.mk (HH.out.below hb); have HQ1 := Aside0.mk (K31.of_below hb); clear hb)
    go_ret
    exact ⟨rfl, HH1.out, HB1.out, HQ1.out⟩
  have hd : decide (how < 0) = false := decide_eq_false h1
  by_cases h2 : 2 < how
  · rw [if_pos (.inr h2)] at hme
    subst hme
    have hd2 : decide (2 < how) = true := decide_eq_true h2
    clear h1 h2
    go_enter Tryd.func10, Tryd.ntmps10
    go_wp2_with (go_at_call 17; refine (guard_gate_some g _ cap a _ i _ HG.out HI.out.2 HIL.out).mono ?_; rintro e w1 ⟨rfl, hb⟩; have HB1 := Aside0.mk (HB.out.trans (hb.mono HB.out.size)); have HH1 := Aside0.mk (HH.out.below hb); have HQ1 := Aside0.mk (K31.of_below hb); clear hb)
    go_ret
    exact ⟨rfl, HH1.out, HB1.out, HQ1.out⟩
  have hd2 : decide (2 < how) = false := decide_eq_false h2
  rw [if_neg (by omega)] at hme
  clear h1 h2
  by_cases h3 : gs[j].fl = 0
  · rw [if_pos h3] at hme
    subst hme
    have hd3 : (gs[j].fl == 0) = true := beq_iff_eq.mpr h3
    clear h3
    go_enter Tryd.func10, Tryd.ntmps10
    go_wp2_with (go_at_call 17; refine (guard_gate_some g _ cap a _ i _ HG.out HI.out.2 HIL.out).mono ?_; rintro e w1 ⟨rfl, hb⟩; have HB1 := Aside0.mk (HB.out.trans (hb.mono HB.out.size)); have HH1 := Aside0.mk (HH.out.below hb); have HQ1 := Aside0.mk (K31.of_below hb); have x6 : w1.cell? ⟨a, i.toNat * 7 + 6, none⟩ = some (.int .i64 gs[j].fl) := (HH1.out.rowAt j HJ.out i HI.out.1 HI.out.2 (blk_below HG.out hb)).1 6 _ rfl; clear hb)
    go_ret
    exact ⟨rfl, HH1.out, HB1.out, HQ1.out⟩
  rw [if_neg h3] at hme
  subst hme
  have hd3 : (gs[j].fl == 0) = false := beq_eq_false_iff_ne.mpr h3
  have HE := Aside0.mk (show overG gs j gs[j] 0 = gs.set j ⟨gs[j].b, gs[j].p, gs[j].fl - 1⟩ from if_pos rfl)
  have hw : wrap64 (gs[j].fl - 1) = gs[j].fl - 1 := by have := HF.out; unfold wrap64; omega
  clear h3
  go_enter Tryd.func10, Tryd.ntmps10
  go_upto_region 8 with (go_at_call 17; refine (guard_gate_some g _ cap a _ i _ HG.out HI.out.2 HIL.out).mono ?_; rintro e w2 ⟨rfl, hb⟩; have HB2 := Aside0.mk (HB.out.trans (hb.mono HB.out.size)); have HH2 := Aside0.mk (HH.out.below hb); have HK2 := Aside0.mk (HK.out.below hb); have HQ2 := Aside0.mk (K31.of_below hb); have HG2 := Aside0.mk (blk_below HG.out hb); have x6 : w2.cell? ⟨a, i.toNat * 7 + 6, none⟩ = some (.int .i64 gs[j].fl) := (HH2.out.rowAt j HJ.out i HI.out.1 HI.out.2 (blk_below HG.out hb)).1 6 _ rfl; clear hb)
  obtain ⟨hc, hfr, _, _, ha, hset, _, hga, hne, h31⟩ := HH2.out.rowAt j HJ.out i HI.out.1 HI.out.2 HG2.out
  have fz := hfr 6
  have HH3 := Aside0.mk (hset (gs[j].fl - 1))
  have HB3 := Aside0.mk (HB2.out.setCell (p := ⟨a, i.toNat * 7 + 6, none⟩) ha (.int .i64 (gs[j].fl - 1)))
  have HK3 := Aside0.mk (show IsB w0 (w2.setCell ⟨a, i.toNat * 7 + 6, none⟩ (.int .i64 (gs[j].fl - 1))) gs[j].b k from ⟨blk_far HK2.out.1 (hne _ _ HK2.out) _, HK2.out.2⟩)
  have HG3 := Aside0.mk (blk_far HG2.out (p := ⟨a, i.toNat * 7 + 6, none⟩) hga (.int .i64 (gs[j].fl - 1)))
  have HQ3 := Aside0.mk (HQ2.out.trans (K31.set h31 (i.toNat * 7 + 6) (.int .i64 (gs[j].fl - 1))))
  clear hc hfr hset hne hga ha h31
  go_upto_region 9 with (fail)
  clear x6 fz
  generalize w2.setCell ⟨a, i.toNat * 7 + 6, none⟩ (.int .i64 (gs[j].fl - 1)) = W3 at *
  have hrow := HH3.out.rowAt j (by rw [List.length_set]; exact HJ.out) i HI.out.1 HI.out.2 HG3.out
  have x0 : W3.cell? ⟨a, i.toNat * 7, none⟩ = some (.pointer (some ⟨gs[j].b, 0, none⟩)) := by
    have h1 := hrow.1 0 _ rfl
    simp only [List.getElem_set_self] at h1
    exact h1
  clear hrow
  by_cases h4 : how = 2
  · have hd4 : (how == 2) = true := beq_iff_eq.mpr h4
    clear h4
    go_wp2_with (go_at_call 20; (refine (b_Lost w0 _ gs[j].b k now HK3.out HB3.out).mono ?_; rintro e w4 ⟨k', rfl, hi, hb, hkp⟩; have HB4 := Aside0.mk hb; have HH4 := Aside0.mk (HH3.out.stepB HK3.out hi hkp); have HQ4 := Aside0.mk (HQ3.out.trans (K31.of_keep HK3.out hkp)); clear hi hb hkp))
    go_ret
    exact ⟨rfl, by rw [HE.out]; exact HH4.out, HB4.out, HQ4.out⟩
  · have hd4 : (how == 2) = false := beq_eq_false_iff_ne.mpr h4
    clear h4
    go_wp2_with (go_at_call 21; (refine (b_Done w0 _ gs[j].b k now (how == 0) HK3.out HB3.out).mono ?_; rintro e w4 ⟨k', rfl, hi, hb, hkp⟩; have HB4 := Aside0.mk hb; have HH4 := Aside0.mk (HH3.out.stepB HK3.out hi hkp); have HQ4 := Aside0.mk (HQ3.out.trans (K31.of_keep HK3.out hkp)); clear hi hb hkp))
    go_ret
    exact ⟨rfl, by rw [HE.out]; exact HH4.out, HB4.out, HQ4.out⟩

set_option maxRecDepth 100000 in
set_option maxHeartbeats 2000000 in
theorem guard_Restore_none (w0 w : World) (g : Nat) (gs : List Gt) (p f : Int) (h : IsGd w0 w g gs) (hp : outR gs.length p) :
    Calls Tryd.prog 11 #[.pointer (some ⟨g, 0, none⟩), .int .i64 p, .int .i64 f] w fun e w' => e = .returned (.int .i64 7) ∧ Below w.heap.size w w' := by
  obtain ⟨A, cap, m, n, D, hg, hm⟩ := h.head
  have HG := Aside0.mk hg
  have HP := Aside0.mk hp
  clear hg hp hm h
  go_enter Tryd.func11, Tryd.ntmps11
  go_wp2_with (go_at_call 17; refine (guard_gate_none g _ cap A _ p _ HG.out HP.out).mono ?_; rintro e w1 ⟨rfl, hb⟩; have HB1 := Aside0.mk hb; clear hb)
  go_ret
  exact ⟨rfl, HB1.out⟩
set_option maxRecDepth 100000 in
set_option maxHeartbeats 4000000 in
theorem guard_Restore_no (w0 w : World) (g : Nat) (gs : List Gt) (j : Nat) (hj : j < gs.length) (i : Int) (hi : i.toNat = j) (h0 : 0 ≤ i) (f : Int) (h : IsGd w0 w g gs) (hb : Below w0.heap.size w0 w) (hf : f < 0 ∨ gs[j].p.f1 < f) :
    Calls Tryd.prog 11 #[.pointer (some ⟨g, 0, none⟩), .int .i64 i, .int .i64 f] w fun e w' => e = .returned (.int .i64 1) ∧ IsGd w0 w' g gs ∧ Below w0.heap.size w0 w' ∧ K31 w w' := by
  obtain ⟨a, cap, m, hg, hrow⟩ := h.row j hj i hi h0
  have HG := Aside0.mk hg
  have HH := Aside0.mk h
  have HB := Aside0.mk hb
  have HI := Aside0.mk (And.intro hi h0)
  have HIL := Aside0.mk (show i < (gs.length : Int) by omega)
  have HJ := Aside0.mk hj
  clear h hb hi h0 hg hrow
  by_cases h1 : f < 0
  · have hd : decide (f < 0) = true := decide_eq_true h1
    clear h1 hf
    go_enter Tryd.func11, Tryd.ntmps11
    go_wp2_with (go_at_call 17; refine (guard_gate_some g _ cap a _ i _ HG.out HI.out.2 HIL.out).mono ?_; rintro e w1 ⟨rfl, hb⟩; have HB1 := Aside0.mk (HB.out.trans (hb.mono HB.out.size)); have HH1 := Aside0.mk (HH.out.below hb); have HQ1 := Aside0.mk (K31.of_below hb); clear hb)
    go_ret
    exact ⟨rfl, HH1.out, HB1.out, HQ1.out⟩
  · have hd : decide (f < 0) = false := decide_eq_false h1
    have hd2 : decide (gs[j].p.f1 < f) = true := decide_eq_true (by omega)
    clear h1 hf
    go_enter Tryd.func11, Tryd.ntmps11
    go_wp2_with (go_at_call 17; refine (guard_gate_some g _ cap a _ i _ HG.out HI.out.2 HIL.out).mono ?_; rintro e w1 ⟨rfl, hb⟩; have HB1 := Aside0.mk (HB.out.trans (hb.mono HB.out.size)); have HH1 := Aside0.mk (HH.out.below hb); have HQ1 := Aside0.mk (K31.of_below hb); have x2 : w1.cell? ⟨a, i.toNat * 7 + 2, none⟩ = some (.int .i64 gs[j].p.f1) := (HH1.out.rowAt j HJ.out i HI.out.1 HI.out.2 (blk_below HG.out hb)).1 2 _ rfl; clear hb)
    go_ret
    exact ⟨rfl, HH1.out, HB1.out, HQ1.out⟩
set_option maxRecDepth 100000 in
set_option maxHeartbeats 4000000 in
theorem guard_Restore_ok (w0 w : World) (g : Nat) (gs : List Gt) (j : Nat) (hj : j < gs.length) (i : Int) (hi : i.toNat = j) (h0 : 0 ≤ i) (f : Int) (h : IsGd w0 w g gs) (hb : Below w0.heap.size w0 w) (hf0 : 0 ≤ f) (hf1 : f ≤ gs[j].p.f1) :
    Calls Tryd.prog 11 #[.pointer (some ⟨g, 0, none⟩), .int .i64 i, .int .i64 f] w fun e w' => ∃ b', e = .returned (.int .i64 0) ∧ IsGd w0 w' g (gs.set j ⟨b', gs[j].p, f⟩) ∧ IsB w0 w' b' (freshK gs[j].p) ∧ Below w0.heap.size w0 w' ∧ K31 w w' := by
  obtain ⟨a, cap, m, hg, hrow⟩ := h.row j hj i hi h0
  have HOK := Aside0.mk hrow.2.2.2.1
  have HG := Aside0.mk hg
  have HH := Aside0.mk h
  have HB := Aside0.mk hb
  have HI := Aside0.mk (And.intro hi h0)
  have HIL := Aside0.mk (show i < (gs.length : Int) by omega)
  have HJ := Aside0.mk hj
  have hd : decide (f < 0) = false := decide_eq_false (by omega)
  have hd2 : decide (gs[j].p.f1 < f) = false := decide_eq_false (by omega)
  clear h hb hi h0 hg hrow hf0 hf1
  go_enter Tryd.func11, Tryd.ntmps11
  go_upto_region 6 with (go_at_call 17; refine (guard_gate_some g _ cap a _ i _ HG.out HI.out.2 HIL.out).mono ?_; rintro e w1 ⟨rfl, hb⟩; have HB1 := Aside0.mk (HB.out.trans (hb.mono HB.out.size)); have HH1 := Aside0.mk (HH.out.below hb); have HG1 := Aside0.mk (blk_below HG.out hb); have HQ1 := Aside0.mk (K31.of_below hb); have x2 : w1.cell? ⟨a, i.toNat * 7 + 2, none⟩ = some (.int .i64 gs[j].p.f1) := (HH1.out.rowAt j HJ.out i HI.out.1 HI.out.2 (blk_below HG.out hb)).1 2 _ rfl; clear hb)
  have hrow := HH1.out.rowAt j HJ.out i HI.out.1 HI.out.2 HG1.out
  have x1 : w1.cell? ⟨a, i.toNat * 7 + 1, none⟩ = some (.string gs[j].p.f0) := hrow.1 1 _ rfl
  have x3 : w1.cell? ⟨a, i.toNat * 7 + 3, none⟩ = some (.int .i64 gs[j].p.f2) := hrow.1 3 _ rfl
  have x4 : w1.cell? ⟨a, i.toNat * 7 + 4, none⟩ = some (.int .i64 gs[j].p.f3) := hrow.1 4 _ rfl
  have x5 : w1.cell? ⟨a, i.toNat * 7 + 5, none⟩ = some (.int .i64 gs[j].p.f4) := hrow.1 5 _ rfl
  clear hrow
  go_wp2_with (go_at_call 16; (refine (guard_fresh_ok w0 _ gs[j].p HOK.out.2.2 HB1.out).mono ?_; rintro e w2 ⟨b', rfl, hi, hb⟩; have HB2 := Aside0.mk (HB1.out.trans (hb.mono HB1.out.size)); have HH2 := Aside0.mk (HH1.out.below hb); have HK2 := Aside0.mk hi; have HQ2 := Aside0.mk (HQ1.out.trans (K31.of_below hb)); have HG2 := Aside0.mk (blk_below HG1.out hb); have x0 : w2.cell? ⟨a, i.toNat * 7, none⟩ = some (.pointer (some ⟨gs[j].b, 0, none⟩)) := (HH2.out.rowAt j HJ.out i HI.out.1 HI.out.2 (blk_below HG1.out hb)).1 0 _ rfl; have x6 : w2.cell? ⟨a, i.toNat * 7 + 6, none⟩ = some (.int .i64 gs[j].fl) := (HH2.out.rowAt j HJ.out i HI.out.1 HI.out.2 (blk_below HG1.out hb)).1 6 _ rfl; have fz0 : w2.frozen? ⟨a, i.toNat * 7, none⟩ = false := (HH2.out.rowAt j HJ.out i HI.out.1 HI.out.2 (blk_below HG1.out hb)).2.1 0; have fz6 : w2.frozen? ⟨a, i.toNat * 7 + 6, none⟩ = false := (HH2.out.rowAt j HJ.out i HI.out.1 HI.out.2 (blk_below HG1.out hb)).2.1 6; clear hi hb))
  go_ret
  obtain ⟨_, _, _, _, ha, _, hset, _, hne, h31⟩ := HH2.out.rowAt j HJ.out i HI.out.1 HI.out.2 HG2.out
  exact ⟨b', rfl, hset b' f _ HK2.out, ⟨blk_far (blk_far HK2.out.1 (hne _ _ HK2.out) _) (hne _ _ HK2.out) _, HK2.out.2⟩, (HB2.out.setCell (p := ⟨a, i.toNat * 7 + 6, none⟩) ha _).setCell (p := ⟨a, i.toNat * 7, none⟩) ha _, fun q cs hq => blk_far (blk_far (HQ2.out q cs hq) (h31 q cs (HQ2.out q cs hq)) _) (h31 q cs (HQ2.out q cs hq)) _⟩
end Go.Proofs.YtjefllmaffialaaDoor.Q
