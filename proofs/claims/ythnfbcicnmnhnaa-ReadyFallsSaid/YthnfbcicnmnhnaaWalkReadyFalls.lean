/- ReadyFalls: its walk, as the row asks. -/
import Derived.OpenShut
import Derived.Test.YthnfbcicnmnhnaaBRqFalls
namespace Go.Proofs.Ythnfbcicnmnhnaa.Walk
open Go.RowKit Go.Proofs.YthnfbcicnmnhnaaW.PrintWords Go.Proofs.Ythnfbcicnmnhnaa.Q
set_option linter.unusedVariables false
theorem wf_u16 {n : Int} (h : (Lit.int .u16 n).wf = true) : 0 ≤ n ∧ n ≤ 65535 := by
  simp [Lit.wf, IntKind.min, IntKind.max, IntKind.signed, IntKind.bits] at h
  omega
theorem ReadyFalls.walk (w : World) (a0 : Int) (A1 : Option Addr) (c1 : Nat) (l1 : List (Int × Int))
    (w0 : (Lit.int .u16 a0).wf = true) (hr1 : Kd.C (Kd.pair (Kd.int .u16) (Kd.int .u16)) w A1 l1.length l1) (hc1 : l1.length ≤ c1) (hm1 : c1 ≤ maxLen) (ok1 : ∀ x ∈ l1, (fun x : Int × Int => (fun x => (Lit.int .u16 x).wf = true) x.1 ∧ (fun x => (Lit.int .u16 x).wf = true) x.2) x) :
    Calls Try.prog 4 #[.int .u16 a0, .slice A1 l1.length c1] w fun e w' => e = .returned (.bool true) ∧ Below w.heap.size w w' :=
  usufructlaw07_ReadyFalls.calls a0 A1 c1 l1 (wf_u16 w0) w hr1 hc1 (fun x hx => ⟨wf_u16 (ok1 x hx).1, wf_u16 (ok1 x hx).2⟩) (by unfold maxLen at hm1; omega)
end Go.Proofs.Ythnfbcicnmnhnaa.Walk
