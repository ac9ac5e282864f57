/- ReadyAges: its walk, as the row asks. -/
import Derived.OpenShut
import Derived.Test.YthnfbcicnmnhnaaBReadyAges
namespace Go.Proofs.Ythnfbcicnmnhnaa.Walk
open Go.RowKit Go.Proofs.YthnfbcicnmnhnaaW.PrintWords Go.Proofs.Ythnfbcicnmnhnaa.Q
set_option linter.unusedVariables false
theorem wf_u16 {n : Int} (h : (Lit.int .u16 n).wf = true) : 0 ≤ n ∧ n ≤ 65535 := by
  simp [Lit.wf, IntKind.min, IntKind.max, IntKind.signed, IntKind.bits] at h
  omega
theorem wf_u32 {n : Int} (h : (Lit.int .u32 n).wf = true) : 0 ≤ n ∧ n ≤ 4294967295 := by
  simp [Lit.wf, IntKind.min, IntKind.max, IntKind.signed, IntKind.bits] at h
  omega
theorem ReadyAges.walk (w : World) (a0 : Int) (a1 : Int) (a2 : Int) (a3 : Int) (a4 : Int)
    (w0 : (Lit.int .u16 a0).wf = true) (w1 : (Lit.int .u32 a1).wf = true) (w2 : (Lit.int .u32 a2).wf = true) (w3 : (Lit.int .u8 a3).wf = true) (w4 : (Lit.int .u8 a4).wf = true) :
    Calls Try.prog 3 #[.int .u16 a0, .int .u32 a1, .int .u32 a2, .int .u8 a3, .int .u8 a4] w fun e w' => e = .returned (.bool true) ∧ Below w.heap.size w w' :=
  usufructlaw07_ReadyAges.calls a0 a1 a2 a3 a4 (wf_u16 w0) (wf_u32 w1) (wf_u32 w2) (Go.bounds_u8 w3) (Go.bounds_u8 w4) w
end Go.Proofs.Ythnfbcicnmnhnaa.Walk
