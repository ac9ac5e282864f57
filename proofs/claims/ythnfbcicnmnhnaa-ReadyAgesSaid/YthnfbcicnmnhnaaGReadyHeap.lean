/- readyq: the library's heap, where what is pushed stays behind. -/
import Derived.Test.YthnfbcicnmnhnaaGReadyRow
namespace Go.Proofs.Ythnfbcicnmnhnaa.Q
open Go.RowKit Go.Shelf Go.Proofs.YthnfbcicnmnhnaaW.PrintWords Go.Proofs.YthnfbcicnmnhnaaW.PrintLast Go.Proofs.YthnfbcicnmnhnaaW.PrintMore
set_option linter.unusedVariables false
set_option linter.unusedSimpArgs false

/-- The j-th doesn't come ahead of the one above it. -/
def NoUp (es : List En) (j : Nat) : Prop := j = 0 ∨ ∀ (h : j < es.length), ¬ cmpE es[j] (es[(j - 1) / 2]'(by omega)) < 0
set_option maxRecDepth 100000 in
set_option maxHeartbeats 4000000 in
theorem heap_up.calls (w0 w : World) (q : Nat) (cap age last : Int) (es : List En) (h : IsQ w0 w q cap age last es) (j : Nat) (hj : j < es.length) (hl : es.length < 1000000) (hn : NoUp es j) :
    Calls Try.prog 26 #[.iface 63 (.pointer (some ⟨q, 3, none⟩)), .int .i64 (j : Int)] w fun e w' => e = .returned (.tuple #[]) ∧ Below w.heap.size w w' := by
  have HQ := Aside0.mk h
  have HL := Aside0.mk hl
  obtain ⟨ji, hji⟩ : ∃ ji : Int, (j : Int) = ji := ⟨_, rfl⟩
  have HJI := Aside0.mk hji
  rw [hji]
  by_cases h0 : j = 0
  · have hz : ji = 0 := by omega
    subst hz
    clear h hj hn hl
    go_enter Try.func26, Try.ntmps26
    go_wp2
    go_loopw [1] (fun v1 W => v1 = .int .i64 0 ∧ W = w) (fun _ _ => 0)
    case atStart => exact ⟨rfl, rfl⟩
    case round =>
      obtain ⟨rfl, rfl⟩ := hrel
      go_wp2
      go_end0
      exact ⟨rfl, Below.refl _ _⟩
  · have hp : (j - 1) / 2 < es.length := by omega
    have hnl : ¬ cmpE es[j] es[(j - 1) / 2] < 0 := by
      rcases hn with hn | hn
      · exact absurd hn h0
      · exact hn hj
    obtain ⟨k1, hk1⟩ : ∃ k1 : Int, ji - 1 = k1 := ⟨_, rfl⟩
    obtain ⟨pi, hpi⟩ : ∃ pi : Int, (((j - 1) / 2 : Nat) : Int) = pi := ⟨_, rfl⟩
    have hw1 : wrap64 (ji - 1) = k1 := by unfold wrap64; omega
    have hw2 : k1.tdiv 2 = pi := by rw [Int.tdiv_eq_ediv_of_nonneg (by omega)]; omega
    have hw3 : wrap64 pi = pi := by unfold wrap64; omega
    have hq3 : (pi == ji) = false := beq_eq_false_iff_ne.mpr (by omega)
    have HPI := Aside0.mk hpi
    have HLS := Aside0.mk (show ∀ W, IsQ w0 W q cap age last es → Calls Try.prog 65 #[.pointer (some ⟨q, 3, none⟩), .int .i64 ji, .int .i64 pi] W fun e w' => e = .returned (.bool false) ∧ Below W.heap.size W w' from fun W h => by
      have h1 := row_Less.calls w0 W q cap age last es h j ((j - 1) / 2) hj hp ji pi (by omega) (by omega) (by omega) (by omega)
      rw [decide_eq_false hnl] at h1
      exact h1)
    clear h hj hn hl hnl hp hk1 hpi hji h0
    have hm : ∀ W : World, (method 216 63 (.pointer (some ⟨q, 3, none⟩)) "Less").run Try.prog W = .ok (65, .pointer (some ⟨q, 3, none⟩)) W := fun _ => by kernel_rfl
    go_enter Try.func26, Try.ntmps26
    go_wp2
    go_loopw [1] (fun v1 W => v1 = .int .i64 ji ∧ W = w) (fun _ _ => 0)
    case atStart => exact ⟨rfl, rfl⟩
    case round =>
      obtain ⟨rfl, rfl⟩ := hrel
      go_wp2_with (go_at_call 65; refine (HLS.out _ HQ.out).mono ?_; rintro e w5 ⟨rfl, hb⟩; have HB5 := Aside0.mk hb; clear hb)
      go_end0
      exact ⟨rfl, HB5.out⟩

set_option maxRecDepth 100000 in
set_option maxHeartbeats 4000000 in
theorem heap_Push.calls (w0 w : World) (q : Nat) (cap age last : Int) (es : List En) (v : Value) (m n : Nat) (h : IsQX w0 w q cap age last es v m n) (hn : n ≤ es.length + 1) (e : En) (pl : Int) (he : IsEn w0 w e pl) (hd : ∀ x ∈ es, x.b ≠ e.b) (hl : es.length + 1 < 1000000) (hb : Below w0.heap.size w0 w) (hu : NoUp (es ++ [e]) es.length) :
    Calls Try.prog 20 #[.iface 63 (.pointer (some ⟨q, 3, none⟩)), .iface 59 (.pointer (some ⟨e.b, 0, none⟩))] w fun en w' => en = .returned (.tuple #[]) ∧ IsQ w0 w' q cap age last (es ++ [e]) ∧ Below w0.heap.size w0 w' := by
  have HX := Aside0.mk h
  have HN := Aside0.mk hn
  have HE := Aside0.mk he
  have HD := Aside0.mk hd
  have HL := Aside0.mk hl
  have HB := Aside0.mk hb
  have HU := Aside0.mk hu
  have hw : wrap64 (((es ++ [e]).length : Int) - 1) = ((es.length : Nat) : Int) := by rw [List.length_append]; simp; unfold wrap64; omega
  clear h hn he hd hl hb hu
  obtain ⟨nl, hnl⟩ : ∃ nl : Int, ((es ++ [e]).length : Int) = nl := ⟨_, rfl⟩
  have HNL := Aside0.mk hnl
  rw [hnl] at hw
  clear hnl
  have hm1 : ∀ W : World, (method 216 63 (.pointer (some ⟨q, 3, none⟩)) "Push").run Try.prog W = .ok (67, .pointer (some ⟨q, 3, none⟩)) W := fun _ => by kernel_rfl
  have hm2 : ∀ W : World, (method 216 63 (.pointer (some ⟨q, 3, none⟩)) "Len").run Try.prog W = .ok (21, .pointer (some ⟨q, 3, none⟩)) W := fun _ => by kernel_rfl
  go_enter Try.func20, Try.ntmps20
  go_wp2_with (first | (go_at_call 67; (refine (row_Push.calls w0 _ q cap age last es v m n HX.out e pl HE.out HD.out (by have := HL.out; omega) HB.out).mono ?_; rintro en w1 ⟨v', rfl, hx, hb⟩; have HQ1 := Aside0.mk (show IsQ w0 w1 q cap age last (es ++ [e]) from ⟨v', m, n, hx, by rw [List.length_append]; exact HN.out⟩); have HB1 := Aside0.mk hb; clear hx hb)) | (go_at_call 21; (refine (row_Len.calls w0 _ q cap age last (es ++ [e]) HQ1.out).mono ?_; rw [HNL.out]; rintro en w2 ⟨rfl, hb⟩; have HQ2 := Aside0.mk (HQ1.out.below hb); have HB2 := Aside0.mk (HB1.out.trans (hb.mono HB1.out.size)); clear hb)) | (go_at_call 26; (refine (heap_up.calls w0 _ q cap age last (es ++ [e]) HQ2.out es.length (by simp) (by have := HL.out; simp; omega) HU.out).mono ?_; rintro en w3 ⟨rfl, hb⟩; have HQ3 := Aside0.mk (HQ2.out.below hb); have HB3 := Aside0.mk (HB2.out.trans (hb.mono HB2.out.size)); clear hb)))
  go_end0
  exact ⟨rfl, HQ3.out, HB3.out⟩
end Go.Proofs.Ythnfbcicnmnhnaa.Q
