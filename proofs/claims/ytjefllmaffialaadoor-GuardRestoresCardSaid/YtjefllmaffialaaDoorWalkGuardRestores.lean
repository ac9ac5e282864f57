/- GuardRestores: its walk, as the row asks. -/
import Derived.OpenShut
import Derived.Test.YtjefllmaffialaaDoorBGuardRestores
namespace Go.Proofs.YtjefllmaffialaaDoor.Walk
open Go.RowKit Go.Proofs.YtjefllmaffialaaDoorW.PrintWords Go.Proofs.YtjefllmaffialaaDoor.Q
set_option linter.unusedVariables false
theorem GuardRestores.walk (w : World) (A0 : Option Addr) (c0 : Nat) (l0 : List S37) (A1 : Option Addr) (c1 : Nat) (l1 : List (Int × Int × Int × Int)) (a2 : Int) (a3 : Int)
    (hr0 : Kd.C k37 w A0 l0.length l0) (hc0 : l0.length ≤ c0) (hm0 : c0 ≤ maxLen) (ok0 : ∀ x ∈ l0, (fun s : S37 => (fun x : ByteArray × Int × Int × Int × Int => (fun x => x.size ≤ maxLen) x.1 ∧ (fun x => (Lit.int .i64 x).wf = true) x.2.1 ∧ (fun x => (Lit.int .i64 x).wf = true) x.2.2.1 ∧ (fun x => (Lit.int .i64 x).wf = true) x.2.2.2.1 ∧ (fun x => (Lit.int .i64 x).wf = true) x.2.2.2.2) (s.f0, (s.f1, (s.f2, (s.f3, s.f4))))) x) (hr1 : Kd.C (Kd.pair (Kd.int .i64) (Kd.pair (Kd.int .i64) (Kd.pair (Kd.int .i64) (Kd.int .i64)))) w A1 l1.length l1) (hc1 : l1.length ≤ c1) (hm1 : c1 ≤ maxLen) (ok1 : ∀ x ∈ l1, (fun x : Int × Int × Int × Int => (fun x => (Lit.int .i64 x).wf = true) x.1 ∧ (fun x => (Lit.int .i64 x).wf = true) x.2.1 ∧ (fun x => (Lit.int .i64 x).wf = true) x.2.2.1 ∧ (fun x => (Lit.int .i64 x).wf = true) x.2.2.2) x) (w2 : (Lit.int .u8 a2).wf = true) (w3 : (Lit.int .u8 a3).wf = true) (hTab_ : Tabs_ w) :
    Calls Tryd.prog 4 #[.slice A0 l0.length c0, .slice A1 l1.length c1, .int .u8 a2, .int .u8 a3] w fun e w' => e = .returned (.bool true) ∧ Below w.heap.size w w' :=
  usufructlaw12_GuardRestores.calls A0 c0 l0 A1 c1 l1 a2 a3 (Go.bounds_u8 w2) (Go.bounds_u8 w3) w hTab_ hr0 hc0 hr1 hc1
end Go.Proofs.YtjefllmaffialaaDoor.Walk
