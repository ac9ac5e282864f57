/- quota: Next on a gate of one row. -/
import Derived.Test.YtchfkkpghipeiaaDoorGQuotaTake
namespace Go.Proofs.YtchfkkpghipeiaaDoor.Q
open Go.RowKit Go.Shelf Go.Proofs.YtchfkkpghipeiaaDoorW.PrintWords Go.Proofs.YtchfkkpghipeiaaDoorW.PrintLast Go.Proofs.YtchfkkpghipeiaaDoorW.PrintMore
set_option linter.unusedVariables false
set_option linter.unusedSimpArgs false
attribute [local go_sem] max2_int min2_int max_two min_two

def nextG (x : S46) (t now : Int) : Int :=
  if mayG t now = true then (if leftG [x] t x.f0.f0 now > 0 then now else if x.f0.f1 = 0 then 1099511627777 else mn (wrap64 (rd (inW x now) (wrap64 ((inW x now).length - x.f0.f1)) + x.f0.f2)) 1099511627777) else 1099511627777
theorem withinL_len (ts : List Int) (lim : Int) : (withinL ts lim).length ≤ ts.length := by
  unfold withinL
  exact (List.dropWhile_suffix _).length_le
theorem leftG_one (x : S46) (t now : Int) (hm : mayG t now = true) : leftG [x] t x.f0.f0 now = wrap64 (x.f0.f1 - ((inW x now).length : Int)) := by
  have h0 : rd_T46 [x] 0 = x := rfl
  rw [leftG, if_pos hm, named_self, if_neg (by decide), h0]

set_option maxRecDepth 100000 in
set_option maxHeartbeats 4000000 in
theorem quota_Next.calls (base g b : Nat) (ok : Nat → Prop) (x : S46) (t now : Int) (w : World) (hG : IsG base ok w g b x t) (hl : x.f1.length < 900000) (hm0 : 0 ≤ x.f0.f1) (hm1 : x.f0.f1 ≤ 1000) :
    Calls Tryd.prog 9 #[.pointer (some ⟨g, 0, none⟩), .string x.f0.f0, .int .i64 now] w fun e w' => e = .returned (.int .i64 (nextG x t now)) ∧ Below w.heap.size w w' := by
  have HG := Aside0.mk hG
  have HRD := Aside0.mk hG.rd
  have HL := Aside0.mk (show x.f1.length < 1000000 by omega)
  have HTS := Aside0.mk (show ∀ y ∈ [x], y.f1.length < 1000000 by intro y hy; rw [List.mem_singleton] at hy; subst hy; omega)
  have hlen1 : [x].length < 1000000 := by simp
  have HM0 := Aside0.mk hm0
  have HM1 := Aside0.mk hm1
  have HWL := Aside0.mk (show (inW x now).length ≤ x.f1.length from withinL_len _ _)
  clear hG hl hm0 hm1
  obtain ⟨m, hm⟩ : ∃ m, mayG t now = m := ⟨_, rfl⟩
  have HM := Aside0.mk hm
  clear hm
  rw [nextG, HM.out]
  cases m with
  | false =>
    rw [if_neg (show ¬ false = true by decide)]
    go_enter Tryd.func9, Tryd.ntmps9
    go_wp2_with (first | (go_at_call 16; refine (quota_may.calls g now [x] t _ HRD.out).mono ?_; rintro e w2 ⟨rfl, hb⟩; have HB2 := Aside0.mk hb; have hmm : (decide (0 ≤ now) && decide (now ≤ 1099511627776) && decide (t ≤ now)) = false := HM.out; clear hb))
    go_ret
    exact ⟨rfl, HB2.out⟩
  | true =>
    rw [if_pos rfl]
    obtain ⟨lf, hlf⟩ : ∃ lf, leftG [x] t x.f0.f0 now = lf := ⟨_, rfl⟩
    have HLF := Aside0.mk hlf
    clear hlf
    rw [HLF.out]
    by_cases h0 : lf > 0
    · rw [if_pos h0]
      have hd0 : decide (0 < lf) = true := decide_eq_true h0
      clear h0
      go_enter Tryd.func9, Tryd.ntmps9
      go_wp2_with (first | (go_at_call 16; refine (quota_may.calls g now [x] t _ HRD.out).mono ?_; rintro e w2 ⟨rfl, hb⟩; have HB2 := Aside0.mk hb; have hmm : (decide (0 ≤ now) && decide (now ≤ 1099511627776) && decide (t ≤ now)) = true := HM.out; clear hb) | (go_at_call 15; refine (quota_find.calls g x.f0.f0 [x] t _ (HRD.out.below HB2.out) hlen1).mono ?_; rw [named_self]; rintro e w3 ⟨rfl, hb⟩; have HB3 := Aside0.mk (below_step HB2.out hb); clear hb) | (go_at_call 10; refine (quota_Left.calls g x.f0.f0 now [x] t _ (HRD.out.below HB3.out) hlen1 HTS.out).mono ?_; rw [HLF.out]; rintro e w4 ⟨rfl, hb⟩; have HB4 := Aside0.mk (below_step HB3.out hb); clear hb))
      go_ret
      exact ⟨rfl, HB4.out⟩
    · rw [if_neg h0]
      have hd0 : decide (0 < lf) = false := decide_eq_false h0
      have HLE := Aside0.mk h0
      clear h0
      obtain ⟨nx, hnx⟩ : ∃ nx, (if x.f0.f1 = 0 then (1099511627777 : Int) else mn (wrap64 (rd (inW x now) (wrap64 ((inW x now).length - x.f0.f1)) + x.f0.f2)) 1099511627777) = nx := ⟨_, rfl⟩
      have HNX := Aside0.mk hnx
      rw [hnx]
      clear hnx
      go_enter Tryd.func9, Tryd.ntmps9
      go_upto_region 6 with (first | (go_at_call 16; refine (quota_may.calls g now [x] t _ HRD.out).mono ?_; rintro e w2 ⟨rfl, hb⟩; have HB2 := Aside0.mk hb; have hmm : (decide (0 ≤ now) && decide (now ≤ 1099511627776) && decide (t ≤ now)) = true := HM.out; clear hb) | (go_at_call 15; refine (quota_find.calls g x.f0.f0 [x] t _ (HRD.out.below HB2.out) hlen1).mono ?_; rw [named_self]; rintro e w3 ⟨rfl, hb⟩; have HB3 := Aside0.mk (below_step HB2.out hb); clear hb) | (go_at_call 10; refine (quota_Left.calls g x.f0.f0 now [x] t _ (HRD.out.below HB3.out) hlen1 HTS.out).mono ?_; rw [HLF.out]; rintro e w4 ⟨rfl, hb⟩; have HB4 := Aside0.mk (below_step HB3.out hb); clear hb))
      obtain ⟨cap, A, rest, h1, h2, h3, h4, h5, h6⟩ := HG.out.below HB4.out
      have hcap : ((0 : Int) < 1) = True := eq_true (by decide)
      have y0 : w4.cell? ⟨g, 0, none⟩ = some (.slice (some ⟨b, 0, none⟩) 1 cap) := (blk_cell h1 0).trans rfl
      have x0 := (blk_cell h2 0).trans (rowC_0 x A rest)
      have x1 := (blk_cell h2 1).trans (rowC_1 x A rest)
      have x2 := (blk_cell h2 2).trans (rowC_2 x A rest)
      have x3 := (blk_cell h2 3).trans (rowC_3 x A rest)
      have HF4 := Aside0.mk h6
      clear h1 h2 h3 h4 h5 h6
      go_upto_region 7 with (fail)
      have hz := blk_new w4 (.cells #[.string x.f0.f0, .int .i64 x.f0.f1, .int .i64 x.f0.f2, .slice A x.f1.length x.f1.length] 46)
      have hb5 : Below w4.heap.size w4 (w4.alloc (.cells #[.string x.f0.f0, .int .i64 x.f0.f1, .int .i64 x.f0.f2, .slice A x.f1.length x.f1.length] 46)) := below_alloc (Below.refl _ _) _
      clear y0 x0 x1 x2 x3
      generalize w4.alloc (.cells #[.string x.f0.f0, .int .i64 x.f0.f1, .int .i64 x.f0.f2, .slice A x.f1.length x.f1.length] 46) = w5 at *
      have HB5 := Aside0.mk (below_step HB4.out hb5)
      have HF5 := Aside0.mk (Kd.F_below HF4.out hb5)
      obtain ⟨z, hzz⟩ : ∃ z, w4.heap.size = z := ⟨_, rfl⟩
      rw [hzz] at hz ⊢
      clear hb5 hzz HF4
      have z0 := (blk_cell hz 0).trans rfl
      have z1 := (blk_cell hz 1).trans rfl
      have z2 := (blk_cell hz 2).trans rfl
      have z3 := (blk_cell hz 3).trans rfl
      have HZ := Aside0.mk hz
      clear hz
      by_cases hmz : x.f0.f1 = 0
      · have HN := Aside0.mk (HNX.out.symm.trans (if_pos hmz))
        have hdz : (x.f0.f1 == 0) = true := by simpa using hmz
        clear hmz
        go_wp2_with (first | (go_at_call 17; refine (row_within.calls x.f0.f0 x.f0.f1 x.f0.f2 x.f1 A x.f1.length now _ rfl _ (Kd.F_now HF5.out) (Nat.le_refl _) HL.out).mono ?_; rintro e w6 ⟨A6, rfl, hC6, hb⟩; have HB6 := Aside0.mk (below_step HB5.out hb); have hz6 := blk_below HZ.out hb; have v1 := (blk_cell hz6 1).trans rfl; clear hb hC6 hz6))
        go_ret
        exact ⟨by rw [HN.out]; rfl, HB6.out⟩
      · have hnx := HNX.out.symm.trans (if_neg hmz)
        have hdz : (x.f0.f1 == 0) = false := by simpa using hmz
        go_upto_region 8 with (first | (go_at_call 17; refine (row_within.calls x.f0.f0 x.f0.f1 x.f0.f2 x.f1 A x.f1.length now _ rfl _ (Kd.F_now HF5.out) (Nat.le_refl _) HL.out).mono ?_; rintro e w6 ⟨A6, rfl, hC6, hb⟩; have HB6 := Aside0.mk (below_step HB5.out hb); have hz6 := blk_below HZ.out hb; have v1 := (blk_cell hz6 1).trans rfl; have v2 := (blk_cell hz6 2).trans rfl; have HC6 := Aside0.mk (hC6 _ (Kd.C_below (Kd.F_now HF5.out) hb)); clear hb hC6 hz6))
        have hin : inW x now = withinL x.f1 (wrap64 (now - x.f0.f2)) := rfl
        rw [hin] at hnx
        have hle := HLE.out
        have hlo := leftG_one x t now HM.out
        rw [HLF.out, hin] at hlo
        have hwl := HWL.out
        rw [hin] at hwl
        have hL := HL.out
        have hM0 := HM0.out
        have hM1 := HM1.out
        generalize withinL x.f1 (wrap64 (now - x.f0.f2)) = l6 at *
        obtain ⟨i, hi⟩ : ∃ i, wrap64 ((l6.length : Int) - x.f0.f1) = i := ⟨_, rfl⟩
        have hir : 0 ≤ i ∧ i < (l6.length : Int) := by
          unfold wrap64 at hi hlo
          omega
        have hi' : IntKind.i64.wrap ((l6.length : Int) - x.f0.f1) = i := (i64_w _).trans hi
        obtain ⟨ad, e, hx⟩ := Kd.at_int HC6.out i hir.1 hir.2
        cases e
        have hp1 : (0 ≤ i) = True := eq_true hir.1
        have hq1 : (i < (l6.length : Int)) = True := eq_true hir.2
        rw [hi] at hnx
        have HN := Aside0.mk hnx
        clear hnx hi
        clear hir hle hlo hwl hL hM0 hM1 hin hmz
        go_wp2
        repeat (go_quiet (fail); try go_wp2)
        all_goals go_ret
        all_goals exact ⟨by rw [HN.out]; unfold mn; first | (rw [if_pos (by assumption)]; first | rfl | (rw [← i64_w]; rfl)) | (rw [if_neg (by omega)]; first | rfl | (rw [← i64_w]; rfl)), pw_below_drewN HB6.out _⟩
end Go.Proofs.YtchfkkpghipeiaaDoor.Q
