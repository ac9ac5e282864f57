/- QuotaNexts: its walk, as the row asks. -/
import Derived.Test.YtchfkkpghipeiaaDoorBQuotaNexts
namespace Go.Proofs.YtchfkkpghipeiaaDoor.Walk
open Go.RowKit Go.Proofs.YtchfkkpghipeiaaDoorW.PrintWords Go.Proofs.YtchfkkpghipeiaaDoor.Q
set_option linter.unusedVariables false
theorem QuotaNexts.walk (w : World) (cs0 : Array Value) (x0 : S23) (A1 : Option Addr) (c1 : Nat) (l1 : List Int) (a2 : Int) (a3 : Int)
    (hk0 : Kd.K k23 w x0 cs0.toList) (ok0 : (fun s : S23 => (fun x : ByteArray × Int × Int => (fun x => x.size ≤ maxLen) x.1 ∧ (fun x => (Lit.int .i64 x).wf = true) x.2.1 ∧ (fun x => (Lit.int .i64 x).wf = true) x.2.2) (s.f0, (s.f1, s.f2))) x0) (hr1 : Kd.C (Kd.int .i64) w A1 l1.length l1) (hc1 : l1.length ≤ c1) (hm1 : c1 ≤ maxLen) (ok1 : ∀ x ∈ l1, (fun x => (Lit.int .i64 x).wf = true) x) (w2 : (Lit.int .i64 a2).wf = true) (w3 : (Lit.int .u8 a3).wf = true) (hTab_ : Tabs_ w) :
    Calls Tryd.prog 4 #[.agg cs0, .slice A1 l1.length c1, .int .i64 a2, .int .u8 a3] w fun e w' => e = .returned (.bool true) ∧ Below w.heap.size w w' := by
  have e : cs0 = #[.string x0.f0, .int .i64 x0.f1, .int .i64 x0.f2] := by rw [← Array.toList_inj]; exact k23_open hk0
  subst e
  have hw : 0 ≤ a3 ∧ a3 ≤ 255 := by
    have h : IntKind.u8.min ≤ a3 ∧ a3 ≤ IntKind.u8.max := by simpa [Lit.wf] using w3
    exact h
  exact usufructlaw32_QuotaNexts.calls x0 A1 c1 l1 a2 a3 w hw.1 (by omega) hTab_ hr1 hc1 (by have h := ok0.1; simp only [maxLen] at h; omega)
end Go.Proofs.YtchfkkpghipeiaaDoor.Walk
