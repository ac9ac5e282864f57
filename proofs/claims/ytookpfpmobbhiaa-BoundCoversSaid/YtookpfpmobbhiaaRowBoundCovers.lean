/- The row of the law BoundCovers, out of its walk. -/
import Derived.Test.YtookpfpmobbhiaaRows
import Derived.Test.YtookpfpmobbhiaaBOpenZ
import Derived.Test.YtookpfpmobbhiaaAllBoundCovers
import Derived.WalkKit
import Derived.ProofKit
import Derived.OpenShut
import Derived.ShutString
import Derived.ChangeOld
import Derived.Below
import Derived.SizedLaws
import Derived.Test.YtookpfpmobbhiaaWSized
namespace Go.Proofs.Ytookpfpmobbhiaa.boundCoversRow
open Go.ChangeShapes Go.WideShapes Go.ChangeAt Go.RowKit Go.Proofs.YtookpfpmobbhiaaW.PrintWords Go.Proofs.Ytookpfpmobbhiaa.Opn Go.Proofs.Ytookpfpmobbhiaa.Q
open Go.ChangeMaps (open_string shut_string)
set_option linter.unusedVariables false
theorem own : ownKnob Try.prog.godebug = none := by kernel_rfl
theorem laidOut : laidOutB Try.prog = true := by kernel_rfl
set_option maxRecDepth 100000 in
set_option maxHeartbeats 1000000 in
theorem lifted (os : Os) (started : os.Started) (H : Type) (enc : TypeId × Value → H) :
    ReturnsInHanded {} Try.checked os 4 .any (Rows.boundCoversSpec.pre6 enc Try.prog Try.f4 Rows.boundCoversRow.domain false) (Rows.boundCoversSpec.post enc Try.prog Try.f4 false true false false) := by
  refine returnsInHanded_of_change_sized (C := Try.checked) own started (by kernel_rfl) Try.func4
    (ChangeSpec.witness6 (enc := enc) (C := Try.checked) false ⟨#[], #[.agg #[.string ByteArray.empty, .int .i64 0, .slice none 0 0], .slice none 0 0, .slice none 0 0], []⟩ 8 (by kernel_rfl) (by kernel_rfl) (by kernel_rfl) (by kernel_rfl)) ?_
  intro W base args ds gs before hval0 hW hcnd hsz0 _
  have hsz : (DataW.weightsEach Try.prog (Try.f4.params.toList ++ Rows.boundCoversSpec.plain.varTypes Try.prog) (ds ++ gs)).all (· ≤ reachBytes) = true := hsz0
  have hval : ∀ (j : Nat) t v, Try.f4.params[j]? = some t → args[j]? = some v → Value.okWide Try.prog W .any base t v := hval0
  have hW' := hW
  obtain ⟨p, q, hA0, hV, rfl, hfz, hnd⟩ := hW
  have hA : DataW.TrodAll enc Try.prog W 0 (fun _ => true) true Try.f4.params.toList args.toList ds p := hA0
  rw [Try.params4] at hA hval hsz
  obtain ⟨v0, vs0, d0, ds0, p0, q0, hargs, rfl, rfl, h0, r0⟩ := trodAll_cons hA
  obtain ⟨v1, vs1, d1, ds1, p1, q1, rfl, rfl, rfl, h1, r1⟩ := trodAll_cons r0
  obtain ⟨v2, vs2, d2, ds2, p2, q2, rfl, rfl, rfl, h2, r2⟩ := trodAll_cons r1
  obtain ⟨rfl, rfl, rfl⟩ := trodAll_nil r2
  obtain rfl : args = #[v0, v1, v2] := by cases args; simp_all
  obtain ⟨rfl, rfl⟩ := trodVars_none hV
  have k0 := h0
  have lt0 : ∀ x ∈ p0, x.block < W.heap.size := by obtain ⟨m, hm⟩ := k0; exact DataW.trod_lt m _ _ _ hm
  obtain ⟨cs0, rfl, hz0⟩ := okWide_struct Try.underlying28 (hval 0 28 v0 rfl rfl)
  obtain ⟨fuel0, hf0⟩ := h0
  obtain ⟨x0, hk0, ok0⟩ := (show Opens Try.prog 28 k28 (fun s : S28 => (fun x : ByteArray × Int × (List S49) => (fun x => x.size ≤ 140737488351232) x.1 ∧ (fun x => (Lit.int .i64 x).wf = true) x.2.1 ∧ (fun xs => xs.length ≤ maxLen ∧ ∀ x ∈ xs, (fun s : S49 => (fun x : ByteArray × ByteArray × Int × S47 × S47 × Int => (fun x => x.size ≤ 140737488351232) x.1 ∧ (fun x => x.size ≤ 140737488351232) x.2.1 ∧ (fun x => (Lit.int .i64 x).wf = true) x.2.2.1 ∧ (fun s : S47 => (fun x : Int × Int × Int × Int => (fun x => (Lit.int .i64 x).wf = true) x.1 ∧ (fun x => (Lit.int .i64 x).wf = true) x.2.1 ∧ (fun x => (Lit.int .i64 x).wf = true) x.2.2.1 ∧ (fun x => (Lit.int .i64 x).wf = true) x.2.2.2) (s.f0, (s.f1, (s.f2, s.f3)))) x.2.2.2.1 ∧ (fun s : S47 => (fun x : Int × Int × Int × Int => (fun x => (Lit.int .i64 x).wf = true) x.1 ∧ (fun x => (Lit.int .i64 x).wf = true) x.2.1 ∧ (fun x => (Lit.int .i64 x).wf = true) x.2.2.1 ∧ (fun x => (Lit.int .i64 x).wf = true) x.2.2.2) (s.f0, (s.f1, (s.f2, s.f3)))) x.2.2.2.2.1 ∧ (fun x => (Lit.int .i64 x).wf = true) x.2.2.2.2.2) (s.f0, (s.f1, (s.f2, (s.f3, (s.f4, s.f5)))))) x) x.2.2) (s.f0, (s.f1, s.f2))) from (opens_struct (d := (Kd.pair Kd.string (Kd.pair (Kd.int .i64) (Kd.slice 49 k49)))) (fun s : S28 => (s.f0, (s.f1, s.f2))) (fun x => ⟨x.1, x.2.1, x.2.2⟩) (fun _ => rfl) (by kernel_rfl) Try.underlying28 (opensF_cons rfl (opens_string (by kernel_rfl) Try.underlying9) (opensF_cons rfl (opens_int (by kernel_rfl) Try.underlying3) (opensF_one rfl (opens_slice (by kernel_rfl) (opens_struct (d := (Kd.pair Kd.string (Kd.pair Kd.string (Kd.pair (Kd.int .i64) (Kd.pair k47 (Kd.pair k47 (Kd.int .i64))))))) (fun s : S49 => (s.f0, (s.f1, (s.f2, (s.f3, (s.f4, s.f5)))))) (fun x => ⟨x.1, x.2.1, x.2.2.1, x.2.2.2.1, x.2.2.2.2.1, x.2.2.2.2.2⟩) (fun _ => rfl) (by kernel_rfl) Try.underlying49 (opensF_cons rfl (opens_string (by kernel_rfl) Try.underlying9) (opensF_cons rfl (opens_string (by kernel_rfl) Try.underlying9) (opensF_cons rfl (opens_int (by kernel_rfl) Try.underlying3) (opensF_cons rfl (opens_struct (d := (Kd.pair (Kd.int .i64) (Kd.pair (Kd.int .i64) (Kd.pair (Kd.int .i64) (Kd.int .i64))))) (fun s : S47 => (s.f0, (s.f1, (s.f2, s.f3)))) (fun x => ⟨x.1, x.2.1, x.2.2.1, x.2.2.2⟩) (fun _ => rfl) (by kernel_rfl) Try.underlying47 (opensF_cons rfl (opens_int (by kernel_rfl) Try.underlying3) (opensF_cons rfl (opens_int (by kernel_rfl) Try.underlying3) (opensF_cons rfl (opens_int (by kernel_rfl) Try.underlying3) (opensF_one rfl (opens_int (by kernel_rfl) Try.underlying3)))))) (opensF_cons rfl (opens_struct (d := (Kd.pair (Kd.int .i64) (Kd.pair (Kd.int .i64) (Kd.pair (Kd.int .i64) (Kd.int .i64))))) (fun s : S47 => (s.f0, (s.f1, (s.f2, s.f3)))) (fun x => ⟨x.1, x.2.1, x.2.2.1, x.2.2.2⟩) (fun _ => rfl) (by kernel_rfl) Try.underlying47 (opensF_cons rfl (opens_int (by kernel_rfl) Try.underlying3) (opensF_cons rfl (opens_int (by kernel_rfl) Try.underlying3) (opensF_cons rfl (opens_int (by kernel_rfl) Try.underlying3) (opensF_one rfl (opens_int (by kernel_rfl) Try.underlying3)))))) (opensF_one rfl (opens_int (by kernel_rfl) Try.underlying3)))))))) Try.underlying26)))))).go hf0 (light_at hsz (j := 0) (t := 28) rfl rfl)
  have k1 := h1
  have lt1 : ∀ x ∈ p1, x.block < W.heap.size := by obtain ⟨m, hm⟩ := k1; exact DataW.trod_lt m _ _ _ hm
  obtain ⟨b1, len1, cap1, rfl⟩ := okWide_slice Try.underlying29 (hval 1 29 v1 rfl rfl)
  obtain ⟨fuel1, hf1⟩ := h1
  obtain ⟨A1, c1, l1, hcs1, hc1, hm1, hr1, ok1⟩ := opens_row (d := k51) (ok := (fun s : S51 => (fun x : ByteArray × Int × Int × Int × Int => (fun x => x.size ≤ 140737488351232) x.1 ∧ (fun x => (Lit.int .i64 x).wf = true) x.2.1 ∧ (fun x => (Lit.int .i64 x).wf = true) x.2.2.1 ∧ (fun x => (Lit.int .i64 x).wf = true) x.2.2.2.1 ∧ (fun x => (Lit.int .i64 x).wf = true) x.2.2.2.2) (s.f0, (s.f1, (s.f2, (s.f3, s.f4)))))) (opens_struct (d := (Kd.pair Kd.string (Kd.pair (Kd.int .i64) (Kd.pair (Kd.int .i64) (Kd.pair (Kd.int .i64) (Kd.int .i64)))))) (fun s : S51 => (s.f0, (s.f1, (s.f2, (s.f3, s.f4))))) (fun x => ⟨x.1, x.2.1, x.2.2.1, x.2.2.2.1, x.2.2.2.2⟩) (fun _ => rfl) (by kernel_rfl) Try.underlying51 (opensF_cons rfl (opens_string (by kernel_rfl) Try.underlying9) (opensF_cons rfl (opens_int (by kernel_rfl) Try.underlying3) (opensF_cons rfl (opens_int (by kernel_rfl) Try.underlying3) (opensF_cons rfl (opens_int (by kernel_rfl) Try.underlying3) (opensF_one rfl (opens_int (by kernel_rfl) Try.underlying3))))))) Try.underlying29 hf1 (light_at hsz (j := 1) (t := 29) rfl rfl)
  simp only [Value.cells, List.cons.injEq, Value.slice.injEq, and_true] at hcs1
  obtain ⟨rfl, rfl, rfl⟩ := hcs1
  have k2 := h2
  have lt2 : ∀ x ∈ p2, x.block < W.heap.size := by obtain ⟨m, hm⟩ := k2; exact DataW.trod_lt m _ _ _ hm
  obtain ⟨b2, len2, cap2, rfl⟩ := okWide_slice Try.underlying40 (hval 2 40 v2 rfl rfl)
  obtain ⟨fuel2, hf2⟩ := h2
  obtain ⟨A2, c2, l2, hcs2, hc2, hm2, hr2, ok2⟩ := opens_row (d := (Kd.int .u8)) (ok := (fun x => (Lit.int .u8 x).wf = true)) (opens_int (by kernel_rfl) Try.underlying5) Try.underlying40 hf2 (light_at hsz (j := 2) (t := 40) rfl rfl)
  simp only [Value.cells, List.cons.injEq, Value.slice.injEq, and_true] at hcs2
  obtain ⟨rfl, rfl, rfl⟩ := hcs2
  clear hA0 hval0 hsz0 hsz
  refine (Walk.BoundCovers.walk W cs0 x0 b1 cap1 l1 b2 cap2 l2 hk0 ok0 hr1 hc1 hm1 ok1 hr2 hc2 hm2 ok2).mono fun e W' ⟨he, bel⟩ => ?_
  subst he
  exact ⟨_, rfl, _, _, _, [], _, [], hW', trodAll_mk1 (shut_bool Try.underlying4 _), (trodAll_cons_mk (Below.trod laidOut (by kernel_rfl) (of_decide_eq_true (by kernel_rfl)) k0 bel lt0) (trodAll_cons_mk (Below.trod laidOut (by kernel_rfl) (of_decide_eq_true (by kernel_rfl)) k1 bel lt1) (trodAll_cons_mk (Below.trod laidOut (by kernel_rfl) (of_decide_eq_true (by kernel_rfl)) k2 bel lt2) trodAll_mk0))), rfl, bel.frame _, fun h => by cases h⟩
set_option maxRecDepth 100000 in
theorem over : Rows.boundCoversRow.holds Try.pinned (OpenSpec.ofChange Rows.boundCoversSpec) :=
  OpenClaim.holds_of_wide 4 Try.f4 rfl rfl rfl rfl rfl rfl rfl ⟨rfl, rfl, rfl, rfl, rfl⟩ rfl rfl rfl rfl rfl (by kernel_rfl) Try.func4 (by kernel_rfl)
    (of_decide_eq_true (by kernel_rfl)) (by unfold Func.isWrapper; first | (rw [if_pos (by decide +kernel)]; kernel_rfl) | (rw [if_neg (by decide +kernel)]; exact ⟨rfl, rfl⟩))
    (fun os started H enc _ => lifted os started H enc)
end Go.Proofs.Ytookpfpmobbhiaa.boundCoversRow
namespace Go.Proofs.Ytookpfpmobbhiaa
theorem boundCovers_holds : Rows.BoundCoversSaid := boundCoversRow.over
#print axioms boundCovers_holds
end Go.Proofs.Ytookpfpmobbhiaa
