/- quota: a gate of one row as New makes it; the law's awake. -/
import Derived.Test.YtchfkkpghipeiaaDoorGQuotaNew
namespace Go.Proofs.YtchfkkpghipeiaaDoor.Q
open Go.RowKit Go.Shelf Go.Proofs.YtchfkkpghipeiaaDoorW.PrintWords Go.Proofs.YtchfkkpghipeiaaDoorW.PrintLast Go.Proofs.YtchfkkpghipeiaaDoorW.PrintMore
set_option linter.unusedVariables false
set_option linter.unusedSimpArgs false

theorem IsN.one {base : Nat} {W : World} {g : Nat} {q : S23} (h : IsN base W g [q]) : ∃ b, IsG base (fun _ => True) W g b (mk0 q) 0 := by
  obtain ⟨v, h1, h2, h3⟩ := h
  obtain ⟨h30, inner, ho, hr⟩ := h3
  obtain ⟨hil, ho⟩ := ho
  rcases ho with ⟨_, h0⟩ | ⟨b, cap, cur, rfl, hb, hcur, hc1, hc2, hc3, hc4⟩
  · simp at h0
  · have hin : inner = rowq q := by
      have h5 := (hr.2 0 (rowq q) rfl).1
      rw [Nat.zero_mul, List.drop_zero] at h5
      rw [← h5]; exact (List.take_of_length_le (Nat.le_of_eq (hil.trans rfl))).symm
    have hcu : cur = rowC (mk0 q) none (cur.toList.drop 4).toArray := by
      apply Array.ext'
      have h6 : cur.toList.take 4 = rowq q := by rw [← hin]; exact hc4
      have : (rowC (mk0 q) none (cur.toList.drop 4).toArray).toList = rowq q ++ cur.toList.drop 4 := by simp [rowC, rowq, mk0]
      rw [this, ← h6, List.take_append_drop]
    rw [hcu] at hcur
    exact ⟨b, cap, none, _, h1, hcur, hc1, h2, hb, Kd.F_nil _ _ _⟩

def qA : S23 := ⟨⟨#[97]⟩, 1, 10⟩
theorem right_qA : rightB qA = true := by decide +kernel
theorem new_qA : newR [qA] = (-1, 0) := by
  unfold newR
  rw [if_neg (by decide), newAt, if_pos right_qA, if_neg (by decide), newAt]
theorem q1E : takeE (mk0 qA) 0 3 = 0 := by decide +kernel
theorem q1X : takeX (mk0 qA) 0 3 = ⟨qA, [3]⟩ := by
  rw [takeX, if_pos q1E]
  exact congrArg (S46.mk qA) (by decide +kernel)
theorem q1T : takeT (mk0 qA) 0 3 = 3 := by rw [takeT, if_pos q1E]
theorem q2E : takeE ⟨qA, [3]⟩ 3 12 = 17 := by decide +kernel
theorem q2X : takeX ⟨qA, [3]⟩ 3 12 = ⟨qA, [3]⟩ := by rw [takeX, q2E, if_neg (by decide)]
theorem q2T : takeT ⟨qA, [3]⟩ 3 12 = 3 := by rw [takeT, q2E, if_neg (by decide)]
theorem q3 : nextG ⟨qA, [3]⟩ 3 5 = 13 := by decide +kernel
theorem q4E : takeE ⟨qA, [3]⟩ 3 13 = 0 := by decide +kernel

theorem take_q1 (base g b : Nat) (w : World) (hG : IsG base (fun _ => True) w g b (mk0 qA) 0) (hbase : base ≤ w.heap.size) : Calls Tryd.prog 8 #[.pointer (some ⟨g, 0, none⟩), .string ⟨#[97]⟩, .int .i64 3] w fun e w' => e = .returned (.int .i64 0) ∧ IsG base (fun _ => True) w' g b ⟨qA, [3]⟩ 3 ∧ BG base g b w w' := by
  have h := quota_Take.calls base g b (fun _ => True) (mk0 qA) 0 3 w hG hbase (fun _ _ => trivial) (by decide)
  rw [q1E, q1X, q1T] at h
  exact h
theorem take_q2 (base g b : Nat) (w : World) (hG : IsG base (fun _ => True) w g b ⟨qA, [3]⟩ 3) (hbase : base ≤ w.heap.size) : Calls Tryd.prog 8 #[.pointer (some ⟨g, 0, none⟩), .string ⟨#[97]⟩, .int .i64 12] w fun e w' => e = .returned (.int .i64 17) ∧ IsG base (fun _ => True) w' g b ⟨qA, [3]⟩ 3 ∧ BG base g b w w' := by
  have h := quota_Take.calls base g b (fun _ => True) ⟨qA, [3]⟩ 3 12 w hG hbase (fun _ _ => trivial) (by decide)
  rw [q2E, q2X, q2T] at h
  exact h
theorem next_q3 (base g b : Nat) (w : World) (hG : IsG base (fun _ => True) w g b ⟨qA, [3]⟩ 3) : Calls Tryd.prog 9 #[.pointer (some ⟨g, 0, none⟩), .string ⟨#[97]⟩, .int .i64 5] w fun e w' => e = .returned (.int .i64 13) ∧ Below w.heap.size w w' := by
  have h := quota_Next.calls base g b (fun _ => True) ⟨qA, [3]⟩ 3 5 w hG (by decide) (by decide) (by decide)
  rw [q3] at h
  exact h
theorem take_q4 (base g b : Nat) (w : World) (hG : IsG base (fun _ => True) w g b ⟨qA, [3]⟩ 3) (hbase : base ≤ w.heap.size) : Calls Tryd.prog 8 #[.pointer (some ⟨g, 0, none⟩), .string ⟨#[97]⟩, .int .i64 13] w fun e w' => e = .returned (.int .i64 0) ∧ BG base g b w w' := by
  have h := quota_Take.calls base g b (fun _ => True) ⟨qA, [3]⟩ 3 13 w hG hbase (fun _ _ => trivial) (by decide)
  rw [q4E] at h
  exact h.mono (fun e w' hh => ⟨hh.1, hh.2.2⟩)

set_option maxRecDepth 100000 in
set_option maxHeartbeats 4000000 in
theorem usufructlaw32_awake.calls (w : World) (hTab_ : Tabs_ w) :
    Calls Tryd.prog 6 #[] w fun e w' => e = .returned (.bool true) ∧ Below w.heap.size w w' := by
  have HTAB_ := Aside0.mk hTab_
  clear hTab_
  go_enter Tryd.func6, Tryd.ntmps6
  go_upto_region 1 with (fail)
  have hb1 : Below w.heap.size w (w.alloc (.cells #[.string ⟨#[97]⟩, .int .i64 1, .int .i64 10] 23)) := (Below.refl _ w).alloc (Nat.le_refl _) _
  have hC : Kd.C k23 (w.alloc (.cells #[.string ⟨#[97]⟩, .int .i64 1, .int .i64 10] 23)) (some ⟨w.heap.size, 0, none⟩) [qA].length [qA] := by
    refine ⟨rfl, by decide, fun _ => ⟨_, rfl, fun j p hj => ?_⟩⟩
    cases j with
    | succ j => cases hj
    | zero =>
      cases hj
      refine ⟨_, rfl, k23_mk _ qA, fun j u hj => ?_⟩
      have hc := fun i => blk_cell (blk_new w (.cells #[.string ⟨#[97]⟩, .int .i64 1, .int .i64 10] 23)) i
      have e : ((⟨w.heap.size, 0, none⟩ : Addr).add (0 * k23.sz + j)) = ⟨w.heap.size, j, none⟩ := by rw [Nat.zero_mul, Nat.zero_add, Addr.add_lit, Nat.zero_add]
      rw [e, hc]
      match j, hj with
      | 0, hj => exact hj
      | 1, hj => exact hj
      | 2, hj => exact hj
      | j + 3, hj => cases hj
  have HB1 := Aside0.mk hb1
  have HC1 := Aside0.mk hC
  clear hb1 hC
  go_upto_region 2 with (go_at_call 7; refine (quota_New.calls (some ⟨w.heap.size, 0, none⟩) 1 [qA] _ (HTAB_.out.below HB1.out) HC1.out (Nat.le_refl _) (by intro q hq; rw [List.mem_singleton] at hq; subst hq; decide) (by simp)).mono ?_; rw [new_qA]; rintro e w2 ⟨p, rfl, hp, hb⟩; have HP := Aside0.mk hp; have HB2 := Aside0.mk (below_step HB1.out hb); have HBA := Aside0.mk HB1.out.size; clear hb hp)
  have hp := HP.out
  unfold NewG at hp
  rw [if_pos rfl] at hp
  obtain ⟨g, rfl, hN⟩ := hp
  obtain ⟨b, hG⟩ := hN.one
  have HG := Aside0.mk (hG.lower HBA.out)
  clear hG
  clear hN HP
  have HW2 := Aside0.mk HB2.out.size
  go_wp2_with (first
    | (go_at_call 8; (with_reducible refine (take_q1 w.heap.size g b _ HG.out HW2.out).mono ?_); rintro e w3 ⟨rfl, hG3, hb⟩; have HG3 := Aside0.mk hG3; have HB3 := Aside0.mk (HB2.out.trans hb.1); have HW3 := Aside0.mk HB3.out.size; clear hG3 hb)
    | (go_at_call 8; (with_reducible refine (take_q2 w.heap.size g b _ HG3.out HW3.out).mono ?_); rintro e w4 ⟨rfl, hG4, hb⟩; have HG4 := Aside0.mk hG4; have HB4 := Aside0.mk (HB3.out.trans hb.1); have HW4 := Aside0.mk HB4.out.size; clear hG4 hb)
    | (go_at_call 9; (with_reducible refine (next_q3 w.heap.size g b _ HG4.out).mono ?_); rintro e w5 ⟨rfl, hb⟩; have HG5 := Aside0.mk (HG4.out.below hb); have HB5 := Aside0.mk (HB4.out.trans (hb.mono HW4.out)); have HW5 := Aside0.mk HB5.out.size; clear hb)
    | (go_at_call 8; (with_reducible refine (take_q4 w.heap.size g b _ HG5.out HW5.out).mono ?_); rintro e w6 ⟨rfl, hb⟩; have HB6 := Aside0.mk (HB5.out.trans hb.1); clear hb))
  go_ret
  exact ⟨rfl, HB6.out⟩
end Go.Proofs.YtchfkkpghipeiaaDoor.Q
