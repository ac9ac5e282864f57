/- ReadyAges, walked. -/
import Derived.Test.YthnfbcicnmnhnaaGReadyQueue
namespace Go.Proofs.Ythnfbcicnmnhnaa.Q
open Go.RowKit Go.Shelf Go.Proofs.YthnfbcicnmnhnaaW.PrintWords Go.Proofs.YthnfbcicnmnhnaaW.PrintLast Go.Proofs.YthnfbcicnmnhnaaW.PrintMore
set_option linter.unusedVariables false
set_option linter.unusedSimpArgs false

theorem noup_two (x y : En) (h : y.wt < x.wt) : NoUp ([x] ++ [y]) [x].length := by
  refine .inr (fun hj => ?_)
  have hg : ¬ cmpE y x < 0 := by
   have e : cmpI x.wt y.wt = 1 := by
    unfold cmpI
    rw [if_neg (by omega), if_pos h]
   unfold cmpE orI
   rw [e, if_pos (by decide)]
   decide
  simpa using hg
theorem put_one (w0 w : World) (q : Nat) (cap age : Int) (id prio now : Int) (h : IsQ w0 w q cap age 0 []) (hb : Below w0.heap.size w0 w) (hp0 : 0 ≤ prio) (hp1 : prio ≤ 255) (hn0 : 0 ≤ now) (hn1 : now ≤ 1099511627776) (hc : 1 < cap) (hpa : 0 ≤ prio * age ∧ prio * age ≤ 300000000) (wt : Int) (hwt : prio * age - now = wt) :
    Calls Try.prog 8 #[.pointer (some ⟨q, 0, none⟩), .int .i64 id, .int .i64 prio, .int .i64 now] w fun e w' => ∃ b, e = .returned (.tuple #[.int .i64 1, .int .i64 0]) ∧ IsQ w0 w' q cap age 1 [⟨b, 1, id, wt⟩] ∧ Below w0.heap.size w0 w' := by
  subst hwt
  exact queue_Put.calls w0 w q cap age 0 [] id prio now h hb hp0 hp1 hn0 hn1 (by simp; omega) (by simp) (by omega) hpa (fun b => .inl rfl)
theorem put_two (w0 w : World) (q : Nat) (cap age : Int) (x : En) (id prio now : Int) (h : IsQ w0 w q cap age 1 [x]) (hb : Below w0.heap.size w0 w) (hp0 : 0 ≤ prio) (hp1 : prio ≤ 255) (hn0 : 0 ≤ now) (hn1 : now ≤ 1099511627776) (hc : 1 < cap) (hpa : 0 ≤ prio * age ∧ prio * age ≤ 300000000) (wt : Int) (hwt : prio * age - now = wt) (hx : wt < x.wt) :
    Calls Try.prog 8 #[.pointer (some ⟨q, 0, none⟩), .int .i64 id, .int .i64 prio, .int .i64 now] w fun e w' => ∃ b, e = .returned (.tuple #[.int .i64 2, .int .i64 0]) ∧ IsQ w0 w' q cap age 2 [x, ⟨b, 2, id, wt⟩] ∧ Below w0.heap.size w0 w' := by
  subst hwt
  exact queue_Put.calls w0 w q cap age 1 [x] id prio now h hb hp0 hp1 hn0 hn1 (by simp; omega) (by simp) (by omega) hpa (fun b => noup_two x _ hx)

set_option maxRecDepth 100000 in
set_option maxHeartbeats 4000000 in
theorem usufructlaw07_awake.calls (w : World) :
    Calls Try.prog 6 #[] w fun e w' => e = .returned (.bool true) ∧ Below w.heap.size w w' := by
  go_enter Try.func6, Try.ntmps6
  go_wp2_with (first
    | (go_at_call 7; (refine (readyq_New.calls w 4 10 (by decide) (by decide) (by decide) (by decide)).mono ?_; rintro e w1 ⟨q, rfl, hq, hb⟩; have HQ1 := Aside0.mk hq; have HB1 := Aside0.mk hb; clear hq hb))
    | (go_at_call 8; (with_reducible refine (put_one w _ q 4 10 7 1 0 HQ1.out HB1.out (by decide) (by decide) (by decide) (by decide) (by decide) (by decide) 10 (by decide)).mono ?_); rintro e w2 ⟨b1, rfl, hq, hb⟩; have HQ2 := Aside0.mk hq; have HB2 := Aside0.mk hb; clear hq hb)
    | (go_at_call 8; (with_reducible refine (put_two w _ q 4 10 ⟨b1, 1, 7, 10⟩ 8 2 11 HQ2.out HB2.out (by decide) (by decide) (by decide) (by decide) (by decide) (by decide) 9 (by decide) (show (9 : Int) < 10 by decide)).mono ?_); rintro e w3 ⟨b2, rfl, hq, hb⟩; have HQ3 := Aside0.mk hq; have HB3 := Aside0.mk hb; clear hq hb)
    | (go_at_call 9; (refine (queue_First.calls w _ q 4 10 2 ⟨b1, 1, 7, 10⟩ [⟨b2, 2, 8, 9⟩] HQ3.out).mono ?_); rintro e w4 ⟨rfl, hb⟩; have HQ4 := Aside0.mk (HQ3.out.below hb); have HB4 := Aside0.mk (HB3.out.trans (hb.mono HB3.out.size)); clear hb)
    | (go_at_call 12; (refine (queue_Len.calls w _ q 4 10 2 [⟨b1, 1, 7, 10⟩, ⟨b2, 2, 8, 9⟩] HQ4.out).mono ?_); rintro e w5 ⟨rfl, hb⟩; have HB5 := Aside0.mk (HB4.out.trans (hb.mono HB4.out.size)); clear hb))
  go_ret
  exact ⟨rfl, HB5.out⟩

set_option maxRecDepth 100000 in
set_option maxHeartbeats 4000000 in
theorem usufructlaw07_ReadyAges.calls (a0 a1 a2 a3 a4 : Int) (h0 : 0 ≤ a0 ∧ a0 ≤ 65535) (h1 : 0 ≤ a1 ∧ a1 ≤ 4294967295) (h2 : 0 ≤ a2 ∧ a2 ≤ 4294967295) (h3 : 0 ≤ a3 ∧ a3 ≤ 255) (h4 : 0 ≤ a4 ∧ a4 ≤ 255) (w : World) :
    Calls Try.prog 3 #[.int .u16 a0, .int .u32 a1, .int .u32 a2, .int .u8 a3, .int .u8 a4] w fun e w' => e = .returned (.bool true) ∧ Below w.heap.size w w' := by
  have hm3 : 0 ≤ a3 * (1 + a0) ∧ a3 * (1 + a0) ≤ 300000000 := ⟨Int.mul_nonneg h3.1 (by omega), by
    have := Int.mul_le_mul h3.2 (show 1 + a0 ≤ 65536 by omega) (by omega) (by decide)
    omega⟩
  have hm4 : 0 ≤ a4 * (1 + a0) ∧ a4 * (1 + a0) ≤ 300000000 := ⟨Int.mul_nonneg h4.1 (by omega), by
    have := Int.mul_le_mul h4.2 (show 1 + a0 ≤ 65536 by omega) (by omega) (by decide)
    omega⟩
  have hle : a4 * (1 + a0) ≤ 255 * (1 + a0) := Int.mul_le_mul_of_nonneg_right h4.2 (by omega)
  go_enter Try.func3, Try.ntmps3
  go_upto_region 4 with (go_at_call 6; (refine (usufructlaw07_awake.calls _).mono ?_; rintro e w1 ⟨rfl, hb⟩; have HB1 := Aside0.mk hb; clear hb))
  have HA := Aside0.mk (And.intro h0 (And.intro h1 (And.intro h2 (And.intro h3 h4))))
  have HM := Aside0.mk (And.intro hm3 (And.intro hm4 hle))
  obtain ⟨wx, hwx⟩ : ∃ wx, a3 * (1 + a0) - a1 = wx := ⟨_, rfl⟩
  have HWX := Aside0.mk hwx
  clear hwx hm3 hm4 hle
  go_upto_region 8 with (first
    | (go_at_call 7; (refine (readyq_New.calls w1 2 (1 + a0) (by decide) (by decide) (by have := HA.out; omega) (by have := HA.out; omega)).mono ?_; rintro e w2 ⟨q, rfl, hq, hb⟩; have HQ2 := Aside0.mk hq; have HB2 := Aside0.mk hb; clear hq hb))
    | (go_at_call 8; (refine (put_one w1 _ q 2 (1 + a0) 1 a3 a1 HQ2.out HB2.out HA.out.2.2.2.1.1 HA.out.2.2.2.1.2 HA.out.2.1.1 (by have := HA.out; omega) (by decide) HM.out.1 wx HWX.out).mono ?_; rintro e w3 ⟨b1, rfl, hq, hb⟩; have HQ3 := Aside0.mk hq; have HB3 := Aside0.mk hb; clear hq hb)))
  obtain ⟨nb, hnb⟩ : ∃ nb, a1 + 255 * (1 + a0) + 1 + a2 = nb := ⟨_, rfl⟩
  have HNB := Aside0.mk hnb
  clear hnb
  go_wp2_with (first
    | (go_at_call 8; (rw [HNB.out]; refine (put_two w1 _ q 2 (1 + a0) ⟨b1, 1, 1, wx⟩ 2 a4 nb HQ3.out HB3.out HA.out.2.2.2.2.1 HA.out.2.2.2.2.2 (by have := HA.out; have := HNB.out; omega) (by have := HA.out; have := HNB.out; omega) (by decide) HM.out.2.1 (a4 * (1 + a0) - nb) rfl (by have h1 := HA.out; have h2 := HNB.out; have h3 := HM.out; have h4 := HWX.out; show a4 * (1 + a0) - nb < wx; generalize a4 * (1 + a0) = p4 at *; generalize a3 * (1 + a0) = p3 at *; omega)).mono ?_; rintro e w4 ⟨b2, rfl, hq, hb⟩; have HQ4 := Aside0.mk hq; have HB4 := Aside0.mk hb; clear hq hb))
    | (go_at_call 9; (refine (queue_First.calls w1 _ q 2 (1 + a0) 2 ⟨b1, 1, 1, wx⟩ [⟨b2, 2, 2, a4 * (1 + a0) - nb⟩] HQ4.out).mono ?_; rintro e w5 ⟨rfl, hb⟩; have HB5 := Aside0.mk (HB4.out.trans (hb.mono HB4.out.size)); clear hb)))
  go_ret
  exact ⟨rfl, below_step HB1.out HB5.out⟩
end Go.Proofs.Ythnfbcicnmnhnaa.Q
