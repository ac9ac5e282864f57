/- Of every right plan and every count of two bytes: waits never fall and are from base to cap, and the sum of one wait more is the sum and that wait, no tick running over. -/
import Derived.Test.YtiohhfjocmibdaaBBackoffAwake
import Derived.Test.YtiohhfjocmibdaaQx13
import Derived.Test.YtiohhfjocmibdaaBOpen
import Derived.OpenShut
namespace Go.Proofs.Ytiohhfjocmibdaa.Walk
set_option linter.unusedVariables false
open Go.RowKit Go.Proofs.Ytiohhfjocmibdaa.Q Go.Proofs.YtiohhfjocmibdaaW.PrintWords Go.Proofs.YtiohhfjocmibdaaW.PrintLast Go.Proofs.YtiohhfjocmibdaaW.PrintMore Go.Proofs.Ytiohhfjocmibdaa.Opn

theorem BackoffRises.pure (R B F C n : Int) (h0 : 0 ≤ n) (h1 : n ≤ 65535) : ∃ k, usufructlaw11_BackoffRises.f k R B F C n = some true := by
  obtain ⟨m, rfl⟩ := Int.eq_ofNat_of_zero_le h0
  refine ⟨2 * (m + 1) + 301, ?_⟩
  unfold usufructlaw11_BackoffRises.f
  rw [usufructlaw11_awake.eq (by omega), usufructref11_Good.eq]
  simp only [Option.bind_some, if_true]
  by_cases hg : goodPlan R B F C = true
  · have G := goodPlan_iff.1 hg
    rw [if_pos hg, w64 (a := (m : Int)) (by omega) (by omega), w64 (a := (m : Int) + 1) (by omega) (by omega), show (m : Int) + 1 = ((m + 1 : Nat) : Int) by omega]
    have hm : (m : Int) ≤ MT := by unfold MT; omega
    have hm1 : ((m + 1 : Nat) : Int) ≤ MT := by unfold MT; omega
    rw [backoff_Wait.eq G hm (by omega), backoff_Wait.eq G hm1 (by omega)]
    simp only [Option.bind_some]
    have := wt_rises G m; have := wt_lo G m; have := wt_hi G (m + 1)
    rw [if_neg (by omega), if_neg (by omega), decide_eq_false (by omega)]
    simp only [usufructlaw11_BackoffRises.j0]
    rw [if_neg (by decide), w64 (a := (m : Int)) (by omega) (by omega), w64 (a := (m : Int) + 1) (by omega) (by omega), show (m : Int) + 1 = ((m + 1 : Nat) : Int) by omega,
      backoff_Total.eq G hm (by omega), backoff_Total.eq G hm1 (by omega)]
    simp only [Option.bind_some]
    have h2 := tot_nonneg G m; have h3 := tot_le G m; have h4 := G.c2; have h5 := G.b1
    have h6 := wt_hi G m
    unfold MT at h3 h4
    have e : tot B F C (m + 1) = mn (wrap64 (tot B F C m + wt B F C m)) 1099511627776 := by
      rw [w64 (by omega) (by omega)]
      rfl
    rw [if_pos e, backoff_Wait.neg G (by omega) (by omega)]
    rfl
  · rw [if_neg hg]

theorem BackoffRises.walk (w : World) (cs0 : Array Value) (x0 : (Int × Int × Int × Int)) (a1 : Int)
    (hk0 : Kd.K (Kd.pair (Kd.int .i64) (Kd.pair (Kd.int .i64) (Kd.pair (Kd.int .i64) (Kd.int .i64)))) w x0 cs0.toList) (ok0 : (fun x : Int × Int × Int × Int => (fun x => (Lit.int .i64 x).wf = true) x.1 ∧ (fun x => (Lit.int .i64 x).wf = true) x.2.1 ∧ (fun x => (Lit.int .i64 x).wf = true) x.2.2.1 ∧ (fun x => (Lit.int .i64 x).wf = true) x.2.2.2) x0) (w1 : (Lit.int .u16 a1).wf = true) :
    Calls Try.prog 10 #[.agg cs0, .int .u16 a1] w fun e w' => e = .returned (.bool true) ∧ Below w.heap.size w w' := by
  obtain ⟨R, B, F, C⟩ := x0
  obtain ⟨_, _, hcs, rfl, _, _, rfl, rfl, _, _, rfl, rfl, rfl⟩ := hk0
  have e : cs0 = #[.int .i64 R, .int .i64 B, .int .i64 F, .int .i64 C] := by rw [← Array.toList_inj]; exact hcs
  subst e
  have hb := bounds_u16 w1
  obtain ⟨k, h⟩ := BackoffRises.pure R B F C a1 hb.1 hb.2
  exact usufructlaw11_BackoffRises.calls k R B F C a1 true w h
end Go.Proofs.Ytiohhfjocmibdaa.Walk
