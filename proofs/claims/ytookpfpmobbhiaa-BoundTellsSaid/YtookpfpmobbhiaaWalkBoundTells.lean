/- The emissions, the longest wait, the live sagas, and the bounds of any state are as the document says. -/
import Derived.Test.YtookpfpmobbhiaaBBound2
import Derived.Test.YtookpfpmobbhiaaBOpen
import Derived.OpenShut
import Derived.Test.YtookpfpmobbhiaaQx15
namespace Go.Proofs.Ytookpfpmobbhiaa.Walk
set_option linter.unusedVariables false
set_option linter.unusedSimpArgs false
open Go.RowKit Go.Proofs.Ytookpfpmobbhiaa.Q Go.Proofs.YtookpfpmobbhiaaW.PrintWords Go.Proofs.YtookpfpmobbhiaaW.PrintLast Go.Proofs.YtookpfpmobbhiaaW.PrintMore Go.Proofs.Ytookpfpmobbhiaa.Opn

theorem BoundTells.pure (l0 : List S28) (l1 : List S44) (nx : Int) (nm : ByteArray) (dl : Int) (ls : List S49) (lp : List S51) (lim : Int) :
    usufructlaw25_BoundTells.f 1001 l0 l1 nx nm dl ls lp lim = some true := by
  unfold usufructlaw25_BoundTells.f
  have hj : usufructlaw25_BoundTells.j0 1001 lp lim true l0 l1 nx nm dl ls = some true := by
    rw [show (1001 : Nat) = 1000 + 1 from rfl, usufructlaw25_BoundTells.j0, if_pos rfl]
  obtain ⟨r, hr, hr0⟩ := small16_eq l0 l1 nx (k := 1001) (by omega)
  obtain ⟨r2, hr2, hr20⟩ := small13_eq nm dl ls (k := 1001) (by omega)
  rw [show usufructlaw25_awake.f = some true from rfl, Option.bind_some, if_pos rfl, hr, Option.bind_some, hr2, Option.bind_some]
  by_cases h : r = 0
  · rw [if_pos h]
    by_cases h2 : r2 = 0
    · rw [if_pos h2]
      by_cases h3 : (lp.length : Int) > 20
      · rw [decide_eq_true h3]
        exact hj
      · rw [decide_eq_false h3, show (1001 : Nat) = 1000 + 1 from rfl, usufructlaw25_BoundTells.j0, if_neg (by simp)]
        obtain ⟨b0, b1, b2⟩ := hr0 h
        have b3 := hr20 h2
        have q0 := lgN_le l0 lp 40 b2
        have q1 := lgN_le [⟨nm, dl, ls⟩] lp 40 (fun d hd => by rw [List.mem_singleton] at hd; rw [hd]; exact b3)
        rw [List.length_singleton] at q1
        have b4 : lp.length ≤ 20 := by omega
        have q00 : l0.length * 42 ≤ 6 * 42 := Nat.mul_le_mul_right _ b0
        rw [usufructref01_Of.eq, Option.bind_some, refEm_eq ls nm dl (by omega) (by omega), Option.bind_some, usufructref01_Times.eq _ _ (by omega), Option.bind_some,
          long_eq [⟨nm, dl, ls⟩] lp (by simp) (by omega) (fun d hd => by rw [List.mem_singleton] at hd; rw [hd]; show ls.length < _; omega) (by omega), Option.bind_some,
          all_eq _ _ _ (by omega), bound_all_eq, Option.bind_some]
        rw [show bound_Emissions.f nm dl ls = some (emE ls) by unfold bound_Emissions.f; rw [if_pos (by omega), sumT_em], Option.bind_some, Option.bind_some, if_pos rfl]
        rw [show bound_Longest.f l0 lp = some (greT (waitL l0 lp)) by unfold bound_Longest.f; rw [if_pos ⟨⟨by omega, by omega⟩, fun d hd => by have := b2 d hd; omega⟩], Option.bind_some,
          long_eq l0 lp (by omega) (by omega) (fun d hd => by have := b2 d hd; omega) (by omega), Option.bind_some, if_pos rfl]
        rw [show bound_Live.f l0 l1 nx = some ((liveL l1).length : Int) by unfold bound_Live.f; rw [if_pos (by omega)], Option.bind_some, live_eq l0 l1 nx (by omega) (by omega), Option.bind_some, if_pos rfl]
        rw [bticks_eq l0 l1 nx lp (by omega) (by omega) (by omega) (fun d hd => by have := b2 d hd; omega), Option.bind_some, ticks_eq l0 l1 nx lp (by omega) (by omega) (by omega) 40 (by omega) b2 (by omega), Option.bind_some, if_pos rfl]
        unfold bound_Total.f
        rw [if_pos ⟨by omega, by omega⟩, tick_Times.eq, Option.bind_some, bound_all_eq, Option.bind_some, sumT_em, ofT_eq, beq_self_eq_true]
    · rw [if_neg h2]
      exact hj
  · rw [if_neg h]
    exact hj

theorem heap47 : Kd.Heap k47 := Kd.heap_iso _ (Kd.heap_pair (Kd.heap_int _) (Kd.heap_pair (Kd.heap_int _) (Kd.heap_pair (Kd.heap_int _) (Kd.heap_int _))))
theorem heap49 : Kd.Heap k49 := Kd.heap_iso _ (Kd.heap_pair Kd.heap_string (Kd.heap_pair Kd.heap_string (Kd.heap_pair (Kd.heap_int _) (Kd.heap_pair heap47 (Kd.heap_pair heap47 (Kd.heap_int _))))))
theorem BoundTells.walk (w : World) (cs0 : Array Value) (x0 : ((List S28) × (List S44) × Int)) (cs1 : Array Value) (x1 : S28) (A2 : Option Addr) (c2 : Nat) (l2 : List S51) (a3 : Int)
    (hk0 : Kd.K (Kd.pair (Kd.slice 28 k28) (Kd.pair (Kd.slice 44 k44) (Kd.int .i64))) w x0 cs0.toList) (ok0 : (fun x : (List S28) × (List S44) × Int => (fun xs => xs.length ≤ maxLen ∧ ∀ x ∈ xs, (fun s : S28 => (fun x : ByteArray × Int × (List S49) => (fun x => x.size ≤ maxLen) x.1 ∧ (fun x => (Lit.int .i64 x).wf = true) x.2.1 ∧ (fun xs => xs.length ≤ maxLen ∧ ∀ x ∈ xs, (fun s : S49 => (fun x : ByteArray × ByteArray × Int × S47 × S47 × Int => (fun x => x.size ≤ maxLen) x.1 ∧ (fun x => x.size ≤ maxLen) x.2.1 ∧ (fun x => (Lit.int .i64 x).wf = true) x.2.2.1 ∧ (fun s : S47 => (fun x : Int × Int × Int × Int => (fun x => (Lit.int .i64 x).wf = true) x.1 ∧ (fun x => (Lit.int .i64 x).wf = true) x.2.1 ∧ (fun x => (Lit.int .i64 x).wf = true) x.2.2.1 ∧ (fun x => (Lit.int .i64 x).wf = true) x.2.2.2) (s.f0, (s.f1, (s.f2, s.f3)))) x.2.2.2.1 ∧ (fun s : S47 => (fun x : Int × Int × Int × Int => (fun x => (Lit.int .i64 x).wf = true) x.1 ∧ (fun x => (Lit.int .i64 x).wf = true) x.2.1 ∧ (fun x => (Lit.int .i64 x).wf = true) x.2.2.1 ∧ (fun x => (Lit.int .i64 x).wf = true) x.2.2.2) (s.f0, (s.f1, (s.f2, s.f3)))) x.2.2.2.2.1 ∧ (fun x => (Lit.int .i64 x).wf = true) x.2.2.2.2.2) (s.f0, (s.f1, (s.f2, (s.f3, (s.f4, s.f5)))))) x) x.2.2) (s.f0, (s.f1, s.f2))) x) x.1 ∧ (fun xs => xs.length ≤ maxLen ∧ ∀ x ∈ xs, (fun s : S44 => (fun x : Int × ByteArray × Int × Int × Int × Int × Bool × Int × Int => (fun x => (Lit.int .i64 x).wf = true) x.1 ∧ (fun x => x.size ≤ maxLen) x.2.1 ∧ (fun x => (Lit.int .i64 x).wf = true) x.2.2.1 ∧ (fun x => (Lit.int .i64 x).wf = true) x.2.2.2.1 ∧ (fun x => (Lit.int .i64 x).wf = true) x.2.2.2.2.1 ∧ (fun x => (Lit.int .i64 x).wf = true) x.2.2.2.2.2.1 ∧ (fun _ => True) x.2.2.2.2.2.2.1 ∧ (fun x => (Lit.int .i64 x).wf = true) x.2.2.2.2.2.2.2.1 ∧ (fun x => (Lit.int .i64 x).wf = true) x.2.2.2.2.2.2.2.2) (s.f0, (s.f1, (s.f2, (s.f3, (s.f4, (s.f5, (s.f6, (s.f7, s.f8))))))))) x) x.2.1 ∧ (fun x => (Lit.int .i64 x).wf = true) x.2.2) x0) (hk1 : Kd.K k28 w x1 cs1.toList) (ok1 : (fun s : S28 => (fun x : ByteArray × Int × (List S49) => (fun x => x.size ≤ maxLen) x.1 ∧ (fun x => (Lit.int .i64 x).wf = true) x.2.1 ∧ (fun xs => xs.length ≤ maxLen ∧ ∀ x ∈ xs, (fun s : S49 => (fun x : ByteArray × ByteArray × Int × S47 × S47 × Int => (fun x => x.size ≤ maxLen) x.1 ∧ (fun x => x.size ≤ maxLen) x.2.1 ∧ (fun x => (Lit.int .i64 x).wf = true) x.2.2.1 ∧ (fun s : S47 => (fun x : Int × Int × Int × Int => (fun x => (Lit.int .i64 x).wf = true) x.1 ∧ (fun x => (Lit.int .i64 x).wf = true) x.2.1 ∧ (fun x => (Lit.int .i64 x).wf = true) x.2.2.1 ∧ (fun x => (Lit.int .i64 x).wf = true) x.2.2.2) (s.f0, (s.f1, (s.f2, s.f3)))) x.2.2.2.1 ∧ (fun s : S47 => (fun x : Int × Int × Int × Int => (fun x => (Lit.int .i64 x).wf = true) x.1 ∧ (fun x => (Lit.int .i64 x).wf = true) x.2.1 ∧ (fun x => (Lit.int .i64 x).wf = true) x.2.2.1 ∧ (fun x => (Lit.int .i64 x).wf = true) x.2.2.2) (s.f0, (s.f1, (s.f2, s.f3)))) x.2.2.2.2.1 ∧ (fun x => (Lit.int .i64 x).wf = true) x.2.2.2.2.2) (s.f0, (s.f1, (s.f2, (s.f3, (s.f4, s.f5)))))) x) x.2.2) (s.f0, (s.f1, s.f2))) x1) (hr2 : Kd.C k51 w A2 l2.length l2) (hc2 : l2.length ≤ c2) (hm2 : c2 ≤ maxLen) (ok2 : ∀ x ∈ l2, (fun s : S51 => (fun x : ByteArray × Int × Int × Int × Int => (fun x => x.size ≤ maxLen) x.1 ∧ (fun x => (Lit.int .i64 x).wf = true) x.2.1 ∧ (fun x => (Lit.int .i64 x).wf = true) x.2.2.1 ∧ (fun x => (Lit.int .i64 x).wf = true) x.2.2.2.1 ∧ (fun x => (Lit.int .i64 x).wf = true) x.2.2.2.2) (s.f0, (s.f1, (s.f2, (s.f3, s.f4))))) x) (w3 : (Lit.int .i64 a3).wf = true) :
    Calls Try.prog 3 #[.agg cs0, .agg cs1, .slice A2 l2.length c2, .int .i64 a3] w fun e w' => e = .returned (.bool true) ∧ Below w.heap.size w w' := by
  obtain ⟨l0, l1, nx⟩ := x0
  obtain ⟨nm, dl, ls⟩ := x1
  obtain ⟨_, _, e0, ⟨A0, c0, rfl, hc0, hr0⟩, _, _, rfl, ⟨A1, c1, rfl, hc1, hr1⟩, rfl⟩ := hk0
  obtain rfl : cs0 = #[.slice A0 l0.length c0, .slice A1 l1.length c1, .int .i64 nx] := Array.toList_inj.1 e0
  obtain ⟨As, cs, e1, hcs, hrs⟩ := k28_open hk1
  obtain rfl : cs1 = #[.string nm, .int .i64 dl, .slice As ls.length cs] := Array.toList_inj.1 e1
  exact usufructlaw25_BoundTells.calls 1001 A0 c0 l0 A1 c1 l1 nx nm dl (fun k => k < w.heap.size) As cs ls A2 c2 l2 a3 true w hr0 hc0 hr1 hc1 ⟨As, cs, rfl, hcs, Kd.C_F heap49 hrs⟩ hr2 hc2 (BoundTells.pure l0 l1 nx nm dl ls l2 a3) rfl
end Go.Proofs.Ytookpfpmobbhiaa.Walk
