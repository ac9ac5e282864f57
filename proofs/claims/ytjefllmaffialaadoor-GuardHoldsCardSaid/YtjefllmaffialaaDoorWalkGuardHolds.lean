/- GuardHolds: its walk, as the row asks. -/
import Derived.Test.YtjefllmaffialaaDoorBGuardHolds
namespace Go.Proofs.YtjefllmaffialaaDoor.Walk
open Go.RowKit Go.Proofs.YtjefllmaffialaaDoorW.PrintWords Go.Proofs.YtjefllmaffialaaDoor.Q
set_option linter.unusedVariables false
theorem GuardHolds.walk (w : World) (A0 : Option Addr) (c0 : Nat) (l0 : List S37) (A1 : Option Addr) (c1 : Nat) (l1 : List (Int × Int × Int × Int))
    (hr0 : Kd.C k37 w A0 l0.length l0) (hc0 : l0.length ≤ c0) (hm0 : c0 ≤ maxLen) (ok0 : ∀ x ∈ l0, (fun s : S37 => (fun x : ByteArray × Int × Int × Int × Int => (fun x => x.size ≤ maxLen) x.1 ∧ (fun x => (Lit.int .i64 x).wf = true) x.2.1 ∧ (fun x => (Lit.int .i64 x).wf = true) x.2.2.1 ∧ (fun x => (Lit.int .i64 x).wf = true) x.2.2.2.1 ∧ (fun x => (Lit.int .i64 x).wf = true) x.2.2.2.2) (s.f0, (s.f1, (s.f2, (s.f3, s.f4))))) x) (hr1 : Kd.C (Kd.pair (Kd.int .i64) (Kd.pair (Kd.int .i64) (Kd.pair (Kd.int .i64) (Kd.int .i64)))) w A1 l1.length l1) (hc1 : l1.length ≤ c1) (hm1 : c1 ≤ maxLen) (ok1 : ∀ x ∈ l1, (fun x : Int × Int × Int × Int => (fun x => (Lit.int .i64 x).wf = true) x.1 ∧ (fun x => (Lit.int .i64 x).wf = true) x.2.1 ∧ (fun x => (Lit.int .i64 x).wf = true) x.2.2.1 ∧ (fun x => (Lit.int .i64 x).wf = true) x.2.2.2) x) (hTab_ : Tabs_ w) :
    Calls Tryd.prog 3 #[.slice A0 l0.length c0, .slice A1 l1.length c1] w fun e w' => e = .returned (.bool true) ∧ Below w.heap.size w w' :=
  usufructlaw12_GuardHolds.calls A0 c0 l0 A1 c1 l1 w hTab_ hr0 hc0 hr1 hc1
end Go.Proofs.YtjefllmaffialaaDoor.Walk
