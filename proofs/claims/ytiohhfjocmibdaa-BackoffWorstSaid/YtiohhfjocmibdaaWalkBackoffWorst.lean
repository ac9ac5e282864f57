/- Of every right plan and every two timeouts: what all tries take at most is at least their timeouts and never falls where the timeout rises; as many tries are left as there may be, one less behind each. -/
import Derived.Test.YtiohhfjocmibdaaBBackoffAwake
import Derived.Test.YtiohhfjocmibdaaQx15
import Derived.Test.YtiohhfjocmibdaaBOpen
import Derived.OpenShut
namespace Go.Proofs.Ytiohhfjocmibdaa.Walk
set_option linter.unusedVariables false
open Go.RowKit Go.Proofs.Ytiohhfjocmibdaa.Q Go.Proofs.YtiohhfjocmibdaaW.PrintWords Go.Proofs.YtiohhfjocmibdaaW.PrintLast Go.Proofs.YtiohhfjocmibdaaW.PrintMore Go.Proofs.Ytiohhfjocmibdaa.Opn

theorem backoff_Worst.eq {R B F C : Int} (G : GoodPlan R B F C) (t : Int) {k : Nat} (hk : 2 * R.toNat + 100 ≤ k) : backoff_Worst.f k R B F C t = some (sat (sat (tof t * (R + 1)) + tot B F C R.toNat)) := by
  unfold backoff_Worst.f
  rw [backoff_Good.eq, goodPlan_iff.2 G]
  simp only [Option.bind_some, if_true]
  have := G.r0; have := G.r1
  obtain ⟨m, rfl⟩ := Int.eq_ofNat_of_zero_le G.r0
  rw [Int.toNat_natCast] at hk ⊢
  rw [w64 (a := (m : Int) + 1) (by omega) (by omega), backoff_Total.eq G (by unfold MT; omega) hk]
  simp only [tick_Times.eq, tick_Add.eq, Option.bind_some]
  rw [tof_id (a := (m : Int) + 1) (by omega) (by unfold MT; omega), tof_id (sat_nonneg (Int.mul_nonneg (tof_lo t) (by omega))) sat_le, tof_id (tot_nonneg G m) (tot_le G m)]

theorem BackoffWorst.pure (R B F C a b n : Int) (a0 : 0 ≤ a) (a1 : a ≤ 4294967295) (b0 : 0 ≤ b) (b1 : b ≤ 4294967295) (h0 : 0 ≤ n) (h1 : n ≤ 65535) : ∃ k, usufructlaw11_BackoffWorst.f k R B F C a b n = some true := by
  refine ⟨3000, ?_⟩
  unfold usufructlaw11_BackoffWorst.f
  rw [usufructlaw11_awake.eq (by omega), usufructref11_Good.eq]
  simp only [Option.bind_some, if_true]
  by_cases hg : goodPlan R B F C = true
  · have G := goodPlan_iff.1 hg
    have r0 := G.r0; have r1 := G.r1
    have l0 : 0 ≤ mn a b := by unfold mn; split <;> omega
    have l1 : mn a b ≤ 4294967295 := by unfold mn; split <;> omega
    have l2 : mn a b ≤ mx a b := by unfold mn mx; split <;> split <;> omega
    have l3 : mx a b ≤ 4294967295 := by unfold mx; split <;> omega
    rw [if_pos hg, w64 (a := mn a b) (by omega) (by omega), w64 (a := mx a b) (by omega) (by omega), w64 (a := n) (by omega) (by omega), w64 (a := R + 2) (by omega) (by omega), w64 (a := R + 1) (by omega) (by omega),
      backoff_Worst.eq G _ (by omega), backoff_Worst.eq G _ (by omega)]
    simp only [Option.bind_some]
    generalize mn a b = x at *
    generalize mx a b = y at *
    rw [tof_id (a := x) l0 (by unfold MT; omega), tof_id (a := y) (by omega) (by unfold MT; omega)]
    have hm : x * (R + 1) ≤ y * (R + 1) := Int.mul_le_mul_of_nonneg_right l2 (by omega)
    have hx0 : 0 ≤ x * (R + 1) := Int.mul_nonneg l0 (by omega)
    have hx1 : x * (R + 1) ≤ x * 1001 := Int.mul_le_mul_of_nonneg_left (by omega) l0
    have ht := tot_nonneg G R.toNat
    have h2 : sat (sat (x * (R + 1)) + tot B F C R.toNat) ≤ sat (sat (y * (R + 1)) + tot B F C R.toNat) := sat_mono (by have := sat_mono hm; omega)
    have hmod : Int.tmod n (R + 2) = n % (R + 2) := Int.tmod_eq_emod_of_nonneg h0
    have q0 : 0 ≤ n % (R + 2) := Int.emod_nonneg _ (by omega)
    have q1 : n % (R + 2) < R + 2 := Int.emod_lt_of_pos _ (by omega)
    rw [if_neg (by omega), if_pos h2, w64 (a := x * (R + 1)) (by omega) (by omega)]
    have h3 : sat (sat (x * (R + 1)) + tot B F C R.toNat) ≥ mn (x * (R + 1)) 1099511627776 := by
      unfold mn sat MT
      split <;> split <;> (try split) <;> omega
    rw [if_pos h3, hmod, backoff_Left.eq G q0 (by omega)]
    simp only [Option.bind_some]
    rw [w64 (a := R + 1 - n % (R + 2)) (by omega) (by omega), if_pos rfl, decide_eq_true (by omega)]
  · rw [if_neg hg]

theorem BackoffWorst.walk (w : World) (cs0 : Array Value) (x0 : (Int × Int × Int × Int)) (a1 : Int) (a2 : Int) (a3 : Int)
    (hk0 : Kd.K (Kd.pair (Kd.int .i64) (Kd.pair (Kd.int .i64) (Kd.pair (Kd.int .i64) (Kd.int .i64)))) w x0 cs0.toList) (ok0 : (fun x : Int × Int × Int × Int => (fun x => (Lit.int .i64 x).wf = true) x.1 ∧ (fun x => (Lit.int .i64 x).wf = true) x.2.1 ∧ (fun x => (Lit.int .i64 x).wf = true) x.2.2.1 ∧ (fun x => (Lit.int .i64 x).wf = true) x.2.2.2) x0) (w1 : (Lit.int .u32 a1).wf = true) (w2 : (Lit.int .u32 a2).wf = true) (w3 : (Lit.int .u16 a3).wf = true) :
    Calls Try.prog 11 #[.agg cs0, .int .u32 a1, .int .u32 a2, .int .u16 a3] w fun e w' => e = .returned (.bool true) ∧ Below w.heap.size w w' := by
  obtain ⟨R, B, F, C⟩ := x0
  obtain ⟨_, _, hcs, rfl, _, _, rfl, rfl, _, _, rfl, rfl, rfl⟩ := hk0
  have e : cs0 = #[.int .i64 R, .int .i64 B, .int .i64 F, .int .i64 C] := by rw [← Array.toList_inj]; exact hcs
  subst e
  have hb1 := bounds_u32 w1
  have hb2 := bounds_u32 w2
  have hb := bounds_u16 w3
  obtain ⟨k, h⟩ := BackoffWorst.pure R B F C a1 a2 a3 hb1.1 hb1.2 hb2.1 hb2.2 hb.1 hb.2
  exact usufructlaw11_BackoffWorst.calls k R B F C a1 a2 a3 true w h
end Go.Proofs.Ytiohhfjocmibdaa.Walk
