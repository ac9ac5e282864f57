/- guard: right and Find. -/
import Derived.Test.YtjefllmaffialaaDoorGGuardSend
namespace Go.Proofs.YtjefllmaffialaaDoor.Q
open Go.RowKit Go.Shelf Go.Maps Go.Proofs.YtjefllmaffialaaDoorW.PrintWords Go.Proofs.YtjefllmaffialaaDoorW.PrintLast Go.Proofs.YtjefllmaffialaaDoorW.PrintMore
set_option linter.unusedVariables false
set_option linter.unusedSimpArgs false

def rightP (p : S37) : Bool := Utf.goodD p.f0.data.toList && decide (1 ≤ p.f1) && decide (p.f1 ≤ 10000) && newOk p.f2 p.f3 p.f4
theorem rightP_ok {p : S37} (h : rightP p = true) : okP p := by
  unfold rightP at h
  simp only [Bool.and_eq_true, decide_eq_true_eq] at h
  exact ⟨h.1.1.2, h.1.2, h.2⟩
set_option maxRecDepth 100000 in
set_option maxHeartbeats 4000000 in
theorem guard_right.calls (p : S37) (w : World) (hTab_ : Tabs_ w) (hs : p.f0.size < 1000000) :
    Calls Tryd.prog 14 #[.agg #[.string p.f0, .int .i64 p.f1, .int .i64 p.f2, .int .i64 p.f3, .int .i64 p.f4]] w fun e w' => e = .returned (.bool (rightP p)) ∧ Below w.heap.size w w' := by
  have HT := Aside0.mk hTab_
  have HG := Aside0.mk (show label_Good.f p.f0 = some (Utf.goodD p.f0.data.toList) from if_pos (by omega))
  obtain ⟨rp, hrp⟩ : ∃ rp, rightP p = rp := ⟨_, rfl⟩
  rw [hrp]
  unfold rightP at hrp
  clear hTab_ hs
  go_enter Tryd.func14, Tryd.ntmps14
  go_upto_region 1 with (fail)
  have hz := blk_new w (.cells #[.string p.f0, .int .i64 p.f1, .int .i64 p.f2, .int .i64 p.f3, .int .i64 p.f4] 37)
  have hb1 : Below w.heap.size w (w.alloc (.cells #[.string p.f0, .int .i64 p.f1, .int .i64 p.f2, .int .i64 p.f3, .int .i64 p.f4] 37)) := below_alloc (Below.refl _ _) _
  generalize w.alloc (.cells #[.string p.f0, .int .i64 p.f1, .int .i64 p.f2, .int .i64 p.f3, .int .i64 p.f4] 37) = W1 at *
  have HB1 := Aside0.mk hb1
  obtain ⟨z, hzz⟩ : ∃ z, w.heap.size = z := ⟨_, rfl⟩
  rw [hzz] at hz ⊢
  have z0 : W1.cell? ⟨z, 0, none⟩ = some (.string p.f0) := (blk_cell hz 0).trans rfl
  have HZ := Aside0.mk hz
  clear hz hb1 hzz
  cases hg : Utf.goodD p.f0.data.toList with
  | false =>
    rw [hg] at hrp
    have HG2 := Aside0.mk (HG.out.trans (congrArg some hg))
    have hrp' : rp = false := by rw [← hrp]; simp
    subst hrp'
    clear hrp hg
    go_wp2_with (go_at_call 23; refine (label_Good.calls p.f0 false _ (HT.out.below HB1.out) HG2.out).mono ?_; rintro e w2 ⟨rfl, hb⟩; have HB2 := Aside0.mk (below_step HB1.out hb); clear hb)
    go_ret
    exact ⟨rfl, HB2.out⟩
  | true =>
    rw [hg, Bool.true_and] at hrp
    have HG2 := Aside0.mk (HG.out.trans (congrArg some hg))
    clear hg
    by_cases h1 : 1 ≤ p.f1
    rotate_left
    · have hd1 : decide (1 ≤ p.f1) = false := decide_eq_false h1
      have hrp' : rp = false := by rw [← hrp, hd1]; simp
      subst hrp'
      clear hrp h1
      go_wp2_with (go_at_call 23; refine (label_Good.calls p.f0 true _ (HT.out.below HB1.out) HG2.out).mono ?_; rintro e w2 ⟨rfl, hb⟩; have HB2 := Aside0.mk (below_step HB1.out hb); have z1 : w2.cell? ⟨z, 1, none⟩ = some (.int .i64 p.f1) := (blk_cell (blk_below HZ.out hb) 1).trans rfl; clear hb)
      go_ret
      exact ⟨rfl, HB2.out⟩
    have hd1 : decide (1 ≤ p.f1) = true := decide_eq_true h1
    rw [hd1, Bool.true_and] at hrp
    clear h1
    by_cases h2 : p.f1 ≤ 10000
    rotate_left
    · have hd2 : decide (p.f1 ≤ 10000) = false := decide_eq_false h2
      have hrp' : rp = false := by rw [← hrp, hd2]; simp
      subst hrp'
      clear hrp h2
      go_wp2_with (go_at_call 23; refine (label_Good.calls p.f0 true _ (HT.out.below HB1.out) HG2.out).mono ?_; rintro e w2 ⟨rfl, hb⟩; have HB2 := Aside0.mk (below_step HB1.out hb); have z1 : w2.cell? ⟨z, 1, none⟩ = some (.int .i64 p.f1) := (blk_cell (blk_below HZ.out hb) 1).trans rfl; clear hb)
      go_ret
      exact ⟨rfl, HB2.out⟩
    have hd2 : decide (p.f1 ≤ 10000) = true := decide_eq_true h2
    rw [hd2, Bool.true_and] at hrp
    clear h2
    cases hn : newOk p.f2 p.f3 p.f4 with
    | false =>
      have hrp' : rp = false := by rw [← hrp, hn]
      subst hrp'
      have HN := Aside0.mk hn
      clear hrp hn
      go_wp2_with (first | (go_at_call 23; refine (label_Good.calls p.f0 true _ (HT.out.below HB1.out) HG2.out).mono ?_; rintro e w2 ⟨rfl, hb⟩; have HB2 := Aside0.mk (below_step HB1.out hb); have z0 : w2.cell? ⟨z, 0, none⟩ = some (.string p.f0) := (blk_cell (blk_below HZ.out hb) 0).trans rfl; have z1 : w2.cell? ⟨z, 1, none⟩ = some (.int .i64 p.f1) := (blk_cell (blk_below HZ.out hb) 1).trans rfl; have z2 : w2.cell? ⟨z, 2, none⟩ = some (.int .i64 p.f2) := (blk_cell (blk_below HZ.out hb) 2).trans rfl; have z3 : w2.cell? ⟨z, 3, none⟩ = some (.int .i64 p.f3) := (blk_cell (blk_below HZ.out hb) 3).trans rfl; have z4 : w2.cell? ⟨z, 4, none⟩ = some (.int .i64 p.f4) := (blk_cell (blk_below HZ.out hb) 4).trans rfl; clear hb) | (go_at_call 16; refine (guard_fresh_no _ p HN.out).mono ?_; rintro e w3 ⟨rfl, hb⟩; have HB3 := Aside0.mk (below_step HB2.out hb); clear hb))
      go_ret
      exact ⟨rfl, HB3.out⟩
    | true =>
      have hrp' : rp = true := by rw [← hrp, hn]
      subst hrp'
      have HN := Aside0.mk hn
      clear hrp hn
      go_wp2_with (first | (go_at_call 23; refine (label_Good.calls p.f0 true _ (HT.out.below HB1.out) HG2.out).mono ?_; rintro e w2 ⟨rfl, hb⟩; have HB2 := Aside0.mk (below_step HB1.out hb); have z0 : w2.cell? ⟨z, 0, none⟩ = some (.string p.f0) := (blk_cell (blk_below HZ.out hb) 0).trans rfl; have z1 : w2.cell? ⟨z, 1, none⟩ = some (.int .i64 p.f1) := (blk_cell (blk_below HZ.out hb) 1).trans rfl; have z2 : w2.cell? ⟨z, 2, none⟩ = some (.int .i64 p.f2) := (blk_cell (blk_below HZ.out hb) 2).trans rfl; have z3 : w2.cell? ⟨z, 3, none⟩ = some (.int .i64 p.f3) := (blk_cell (blk_below HZ.out hb) 3).trans rfl; have z4 : w2.cell? ⟨z, 4, none⟩ = some (.int .i64 p.f4) := (blk_cell (blk_below HZ.out hb) 4).trans rfl; clear hb) | (go_at_call 16; refine (guard_fresh_ok w _ p HN.out HB2.out).mono ?_; rintro e w3 ⟨b, rfl, _, hb⟩; have HB3 := Aside0.mk (below_step HB2.out hb); clear hb))
      go_ret
      exact ⟨rfl, HB3.out⟩

theorem mlaw : Keyed Tryd.prog 9 := string_keyed Tryd.underlying9
theorem zero3 (w : World) : (zeroValue 3).run Tryd.prog w = .ok (.int .i64 0) w := by kernel_rfl
/-- What is found. -/
def findI (D : DataW Unit) (kl : Lit) : Int := if Maps.has D kl = true then (match D.atKey kl (.lit (.int .i64 0)) with | .lit (.int .i64 c) => c | _ => 0) else -1
theorem findI_none (kl : Lit) : findI (.map []) kl = -1 := by
  unfold findI
  rw [if_neg (by simp [Maps.has])]
set_option maxRecDepth 100000 in
set_option maxHeartbeats 4000000 in
theorem guard_Find.calls (g m n : Nat) (D : DataW Unit) (v : Value) (s : ByteArray) (kl : Lit) (w : World) (hg : w.heap[g]? = some (.cells #[v, .map (some m)] 43 (0, 0))) (hm : HasMap w m n D) (hkey : keyOf Tryd.prog 9 (.string s) = some kl) :
    Calls Tryd.prog 15 #[.pointer (some ⟨g, 0, none⟩), .string s] w fun e w' => e = .returned (.int .i64 (findI D kl)) ∧ Below w.heap.size w w' := by
  have y1 : w.cell? ⟨g, 1, none⟩ = some (.map (some m)) := (blk_cell hg 1).trans rfl
  have HM := Aside0.mk hm
  have HK := Aside0.mk hkey
  clear hg hm hkey
  obtain ⟨fi, hfi⟩ : ∃ fi, findI D kl = fi := ⟨_, rfl⟩
  rw [hfi]
  unfold findI at hfi
  cases hh : Maps.has D kl with
  | false =>
    rw [hh, if_neg (by decide)] at hfi
    subst hfi
    have HH := Aside0.mk hh
    clear hh
    go_enter Tryd.func15, Tryd.ntmps15
    go_wp2_with (at_lookup; refine wpList_lookup_own_ok_int _ rfl _ _ 40 rfl 9 3 .i64 mlaw Tryd.underlying40 Tryd.underlying3 (zero3 _) m n D rfl HM.out _ _ rfl HK.out ?_; rw [HH.out]; intro c hat hwc; clear hat hwc)
    go_ret
    exact ⟨rfl, Below.refl _ _⟩
  | true =>
    rw [hh, if_pos rfl] at hfi
    have HH := Aside0.mk hh
    have HFI := Aside0.mk hfi
    clear hh hfi
    go_enter Tryd.func15, Tryd.ntmps15
    go_wp2_with (at_lookup; refine wpList_lookup_own_ok_int _ rfl _ _ 40 rfl 9 3 .i64 mlaw Tryd.underlying40 Tryd.underlying3 (zero3 _) m n D rfl HM.out _ _ rfl HK.out ?_; rw [HH.out]; intro c hat hwc; (have e : c = fi := (congrArg (fun x : DataW Unit => match x with | .lit (.int .i64 c) => c | _ => 0) hat).symm.trans HFI.out); subst e; clear hat hwc)
    go_ret
    exact ⟨rfl, Below.refl _ _⟩
end Go.Proofs.YtjefllmaffialaaDoor.Q
