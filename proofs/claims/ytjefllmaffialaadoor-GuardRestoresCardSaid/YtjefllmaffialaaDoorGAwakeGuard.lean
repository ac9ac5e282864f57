/- guard: the law's awake; a guard's steps, whatever the party. -/
import Derived.Test.YtjefllmaffialaaDoorGGuardNew
import Derived.Test.YtjefllmaffialaaDoorGGuardOver
import Derived.Test.YtjefllmaffialaaDoorQx9
namespace Go.Proofs.YtjefllmaffialaaDoor.Q
open Go.RowKit Go.Shelf Go.Proofs.YtjefllmaffialaaDoorW.PrintWords Go.Proofs.YtjefllmaffialaaDoorW.PrintLast Go.Proofs.YtjefllmaffialaaDoorW.PrintMore
set_option linter.unusedVariables false
set_option linter.unusedSimpArgs false

def pA : S37 := ⟨⟨#[112, 97, 121]⟩, 1, 1, 5, 1⟩
theorem right_pA : rightP pA = true := by decide +kernel
theorem send_a (w0 w : World) (g b : Nat) (h : IsGd w0 w g [⟨b, pA, 0⟩]) (hb : Below w0.heap.size w0 w) (hk : IsB w0 w b (freshK pA)) :
    Calls Tryd.prog 9 #[.pointer (some ⟨g, 0, none⟩), .int .i64 0, .int .i64 0] w fun e w' => e = .returned (.int .i64 0) ∧ IsGd w0 w' g [⟨b, pA, 1⟩] ∧ Below w0.heap.size w0 w' :=
  (guard_Send_some w0 w g [⟨b, pA, 0⟩] 0 (by simp) 0 rfl (by decide) 0 h hb (show (0 : Int) ≤ 0 ∧ (0 : Int) ≤ 10000 by decide) (freshK pA) hk).mono (fun e w' h => ⟨h.1, h.2.1, h.2.2.1⟩)
theorem may_a (w0 w : World) (g b : Nat) (h : IsGd w0 w g [⟨b, pA, 1⟩]) (hb : Below w0.heap.size w0 w) :
    Calls Tryd.prog 13 #[.pointer (some ⟨g, 0, none⟩), .int .i64 0, .int .i64 0] w fun e w' => e = .returned (.int .i64 8) ∧ IsGd w0 w' g [⟨b, pA, 1⟩] ∧ Below w0.heap.size w0 w' := by
  refine (guard_May_some w0 w g [⟨b, pA, 1⟩] 0 (by simp) 0 rfl (by decide) 0 h hb).mono ?_
  rintro e w' ⟨k, he, _, _, hg, hb', _⟩
  exact ⟨he, hg, hb'⟩
theorem flying_a (w0 w : World) (g b : Nat) (h : IsGd w0 w g [⟨b, pA, 1⟩]) :
    Calls Tryd.prog 12 #[.pointer (some ⟨g, 0, none⟩), .int .i64 0] w fun e w' => e = .returned (.int .i64 1) ∧ Below w.heap.size w w' :=
  guard_Flying_some w0 w g [⟨b, pA, 1⟩] 0 (by simp) 0 rfl (by decide) h

set_option maxRecDepth 100000 in
set_option maxHeartbeats 4000000 in
theorem usufructlaw12_awake.calls (w : World) (hTab_ : Tabs_ w) :
    Calls Tryd.prog 5 #[] w fun e w' => e = .returned (.bool true) ∧ Below w.heap.size w w' := by
  have HTAB_ := Aside0.mk hTab_
  clear hTab_
  go_enter Tryd.func5, Tryd.ntmps5
  go_upto_region 1 with (fail)
  have hb1 : Below w.heap.size w (w.alloc (.cells #[.string ⟨#[112, 97, 121]⟩, .int .i64 1, .int .i64 1, .int .i64 5, .int .i64 1] 37)) := (Below.refl _ w).alloc (Nat.le_refl _) _
  have hC : Kd.C k37 (w.alloc (.cells #[.string ⟨#[112, 97, 121]⟩, .int .i64 1, .int .i64 1, .int .i64 5, .int .i64 1] 37)) (some ⟨w.heap.size, 0, none⟩) [pA].length [pA] := by
    refine ⟨rfl, by decide, fun _ => ⟨_, rfl, fun j p hj => ?_⟩⟩
    cases j with
    | succ j => cases hj
    | zero =>
      cases hj
      refine ⟨_, rfl, k37_mk _ pA, fun j u hj => ?_⟩
      have hc := fun i => blk_cell (blk_new w (.cells #[.string ⟨#[112, 97, 121]⟩, .int .i64 1, .int .i64 1, .int .i64 5, .int .i64 1] 37)) i
      have e : ((⟨w.heap.size, 0, none⟩ : Addr).add (0 * k37.sz + j)) = ⟨w.heap.size, j, none⟩ := by rw [Nat.zero_mul, Nat.zero_add, Addr.add_lit, Nat.zero_add]
      rw [e, hc]
      match j, hj with
      | 0, hj => exact hj
      | 1, hj => exact hj
      | 2, hj => exact hj
      | 3, hj => exact hj
      | 4, hj => exact hj
      | j + 5, hj => cases hj
  have HB1 := Aside0.mk hb1
  have HC1 := Aside0.mk hC
  clear hb1 hC
  obtain ⟨w1, hw1⟩ : ∃ w1, w.alloc (.cells #[.string ⟨#[112, 97, 121]⟩, .int .i64 1, .int .i64 1, .int .i64 5, .int .i64 1] 37) = w1 := ⟨_, rfl⟩
  have HW1 := Aside0.mk hw1
  rw [hw1] at HB1 HC1
  clear hw1
  go_upto_region 2 with (go_at_call 7; (rw [HW1.out]; refine (guard_New.calls (some ⟨w.heap.size, 0, none⟩) 1 [pA] _ (HTAB_.out.below HB1.out) HC1.out (Nat.le_refl _) (by intro q hq; rw [List.mem_singleton] at hq; subst hq; decide) (by simp)).mono ?_; rintro e w2 ⟨p, at_, er, rfl, hp, ho, hb⟩; obtain ⟨rfl, rfl⟩ := ho rfl (by intro x hx; rw [List.mem_singleton] at hx; rw [hx]; exact right_pA); have HP := Aside0.mk hp; have HB2 := Aside0.mk (below_step HB1.out hb); have HBB := Aside0.mk hb; clear hb hp))
  trace_state
  have hp := HP.out
  unfold NewGd at hp
  rw [if_pos rfl] at hp
  obtain ⟨g, gs, rfl, hG, hmap, hfl, hfr⟩ := hp
  obtain ⟨x, rfl⟩ : ∃ x, gs = [x] := by
    match gs, hmap with
    | [x], _ => exact ⟨x, rfl⟩
    | [], h => simp at h
    | _ :: _ :: _, h => simp at h
  have hxp : x.p = pA := by simpa using hmap
  have hxf : x.fl = 0 := hfl x (List.mem_singleton.2 rfl)
  have hxb := hfr x (List.mem_singleton.2 rfl)
  obtain ⟨b, xp, xf⟩ := x
  subst hxp hxf
  have HG := Aside0.mk hG
  have HK := Aside0.mk hxb
  clear hG hmap hfl hfr hxb HP
  go_wp2_with (first
    | (go_at_call 9; ((with_reducible refine (send_a w1 _ g b HG.out HBB.out HK.out).mono ?_); rintro e w3 ⟨rfl, hG3, hb⟩; have HG3 := Aside0.mk hG3; have HB3 := Aside0.mk hb; clear hG3 hb))
    | (go_at_call 13; ((with_reducible refine (may_a w1 _ g b HG3.out HB3.out).mono ?_); rintro e w4 ⟨rfl, hG4, hb⟩; have HG4 := Aside0.mk hG4; have HB4 := Aside0.mk hb; clear hG4 hb))
    | (go_at_call 12; ((with_reducible refine (flying_a w1 _ g b HG4.out).mono ?_); rintro e w5 ⟨rfl, hb⟩; have HB5 := Aside0.mk (below_step HB1.out (below_step HB4.out hb)); clear hb)))
  go_ret
  exact ⟨rfl, HB5.out⟩
end Go.Proofs.YtjefllmaffialaaDoor.Q
