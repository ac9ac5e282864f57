/- QuotaLoads: its walk, as the row asks. -/
import Derived.Test.YtchfkkpghipeiaaDoorGQuotaTake
import Derived.Test.YtchfkkpghipeiaaDoorGWriterBytes
import Derived.Test.YtchfkkpghipeiaaDoorQx13
import Derived.Test.YtchfkkpghipeiaaDoorGReaderNum
import Derived.Test.YtchfkkpghipeiaaDoorGNewReader
import Derived.Test.YtchfkkpghipeiaaDoorQx10
import Derived.Test.YtchfkkpghipeiaaDoorQx11
import Derived.Test.YtchfkkpghipeiaaDoorQx12
import Derived.Test.YtchfkkpghipeiaaDoorQx7
import Derived.OpenShut
section
namespace Go.Proofs.YtchfkkpghipeiaaDoor.Q
open Go.RowKit Go.Shelf Go.Proofs.YtchfkkpghipeiaaDoorW.PrintWords Go.Proofs.YtchfkkpghipeiaaDoorW.PrintLast Go.Proofs.YtchfkkpghipeiaaDoorW.PrintMore
set_option linter.unusedVariables false
set_option linter.unusedSimpArgs false
attribute [local go_sem] max2_int min2_int max_two min_two

def nextG (x : S46) (t now : Int) : Int :=
  if mayG t now = true then (if leftG [x] t x.f0.f0 now > 0 then now else if x.f0.f1 = 0 then 1099511627777 else mn (wrap64 (rd (inW x now) (wrap64 ((inW x now).length - x.f0.f1)) + x.f0.f2)) 1099511627777) else 1099511627777
theorem withinL_len (ts : List Int) (lim : Int) : (withinL ts lim).length ≤ ts.length := by
  unfold withinL
  exact (List.dropWhile_suffix _).length_le
theorem leftG_one (x : S46) (t now : Int) (hm : mayG t now = true) : leftG [x] t x.f0.f0 now = wrap64 (x.f0.f1 - ((inW x now).length : Int)) := by
  have h0 : rd_T46 [x] 0 = x := rfl
  rw [leftG, if_pos hm, named_self, if_neg (by decide), h0]

set_option maxRecDepth 100000 in
set_option maxHeartbeats 4000000 in
theorem quota_Next.calls (base g b : Nat) (ok : Nat → Prop) (x : S46) (t now : Int) (w : World) (hG : IsG base ok w g b x t) (hl : x.f1.length < 900000) (hm0 : 0 ≤ x.f0.f1) (hm1 : x.f0.f1 ≤ 1000) :
    Calls Tryd.prog 9 #[.pointer (some ⟨g, 0, none⟩), .string x.f0.f0, .int .i64 now] w fun e w' => e = .returned (.int .i64 (nextG x t now)) ∧ Below w.heap.size w w' := by
  have HG := Aside0.mk hG
  have HRD := Aside0.mk hG.rd
  have HL := Aside0.mk (show x.f1.length < 1000000 by omega)
  have HTS := Aside0.mk (show ∀ y ∈ [x], y.f1.length < 1000000 by intro y hy; rw [List.mem_singleton] at hy; subst hy; omega)
  have hlen1 : [x].length < 1000000 := by simp
  have HM0 := Aside0.mk hm0
  have HM1 := Aside0.mk hm1
  have HWL := Aside0.mk (show (inW x now).length ≤ x.f1.length from withinL_len _ _)
  clear hG hl hm0 hm1
  obtain ⟨m, hm⟩ : ∃ m, mayG t now = m := ⟨_, rfl⟩
  have HM := Aside0.mk hm
  clear hm
  rw [nextG, HM.out]
  cases m with
  | false =>
    rw [if_neg (show ¬ false = true by decide)]
    go_enter Tryd.func9, Tryd.ntmps9
    go_wp2_with (first | (go_at_call 16; refine (quota_may.calls g now [x] t _ HRD.out).mono ?_; rintro e w2 ⟨rfl, hb⟩; have HB2 := Aside0.mk hb; have hmm : (decide (0 ≤ now) && decide (now ≤ 1099511627776) && decide (t ≤ now)) = false := HM.out; clear hb))
    go_ret
    exact ⟨rfl, HB2.out⟩
  | true =>
    rw [if_pos rfl]
    obtain ⟨lf, hlf⟩ : ∃ lf, leftG [x] t x.f0.f0 now = lf := ⟨_, rfl⟩
    have HLF := Aside0.mk hlf
    clear hlf
    rw [HLF.out]
    by_cases h0 : lf > 0
    · rw [if_pos h0]
      have hd0 : decide (0 < lf) = true := decide_eq_true h0
      clear h0
      go_enter Tryd.func9, Tryd.ntmps9
      go_wp2_with (first | (go_at_call 16; refine (quota_may.calls g now [x] t _ HRD.out).mono ?_; rintro e w2 ⟨rfl, hb⟩; have HB2 := Aside0.mk hb; have hmm : (decide (0 ≤ now) && decide (now ≤ 1099511627776) && decide (t ≤ now)) = true := HM.out; clear hb) | (go_at_call 15; refine (quota_find.calls g x.f0.f0 [x] t _ (HRD.out.below HB2.out) hlen1).mono ?_; rw [named_self]; rintro e w3 ⟨rfl, hb⟩; have HB3 := Aside0.mk (below_step HB2.out hb); clear hb) | (go_at_call 10; refine (quota_Left.calls g x.f0.f0 now [x] t _ (HRD.out.below HB3.out) hlen1 HTS.out).mono ?_; rw [HLF.out]; rintro e w4 ⟨rfl, hb⟩; have HB4 := Aside0.mk (below_step HB3.out hb); clear hb))
      go_ret
      exact ⟨rfl, HB4.out⟩
    · rw [if_neg h0]
      have hd0 : decide (0 < lf) = false := decide_eq_false h0
      have HLE := Aside0.mk h0
      clear h0
      obtain ⟨nx, hnx⟩ : ∃ nx, (if x.f0.f1 = 0 then (1099511627777 : Int) else mn (wrap64 (rd (inW x now) (wrap64 ((inW x now).length - x.f0.f1)) + x.f0.f2)) 1099511627777) = nx := ⟨_, rfl⟩
      have HNX := Aside0.mk hnx
      rw [hnx]
      clear hnx
      go_enter Tryd.func9, Tryd.ntmps9
      go_upto_region 6 with (first | (go_at_call 16; refine (quota_may.calls g now [x] t _ HRD.out).mono ?_; rintro e w2 ⟨rfl, hb⟩; have HB2 := Aside0.mk hb; have hmm : (decide (0 ≤ now) && decide (now ≤ 1099511627776) && decide (t ≤ now)) = true := HM.out; clear hb) | (go_at_call 15; refine (quota_find.calls g x.f0.f0 [x] t _ (HRD.out.below HB2.out) hlen1).mono ?_; rw [named_self]; rintro e w3 ⟨rfl, hb⟩; have HB3 := Aside0.mk (below_step HB2.out hb); clear hb) | (go_at_call 10; refine (quota_Left.calls g x.f0.f0 now [x] t _ (HRD.out.below HB3.out) hlen1 HTS.out).mono ?_; rw [HLF.out]; rintro e w4 ⟨rfl, hb⟩; have HB4 := Aside0.mk (below_step HB3.out hb); clear hb))
      obtain ⟨cap, A, rest, h1, h2, h3, h4, h5, h6⟩ := HG.out.below HB4.out
      have hcap : ((0 : Int) < 1) = True := eq_true (by decide)
      have y0 : w4.cell? ⟨g, 0, none⟩ = some (.slice (some ⟨b, 0, none⟩) 1 cap) := (blk_cell h1 0).trans rfl
      have x0 := (blk_cell h2 0).trans (rowC_0 x A rest)
      have x1 := (blk_cell h2 1).trans (rowC_1 x A rest)
      have x2 := (blk_cell h2 2).trans (rowC_2 x A rest)
      have x3 := (blk_cell h2 3).trans (rowC_3 x A rest)
      have HF4 := Aside0.mk h6
      clear h1 h2 h3 h4 h5 h6
      go_upto_region 7 with (fail)
      have hz := blk_new w4 (.cells #[.string x.f0.f0, .int .i64 x.f0.f1, .int .i64 x.f0.f2, .slice A x.f1.length x.f1.length] 46)
      have hb5 : Below w4.heap.size w4 (w4.alloc (.cells #[.string x.f0.f0, .int .i64 x.f0.f1, .int .i64 x.f0.f2, .slice A x.f1.length x.f1.length] 46)) := below_alloc (Below.refl _ _) _
      clear y0 x0 x1 x2 x3
      generalize w4.alloc (.cells #[.string x.f0.f0, .int .i64 x.f0.f1, .int .i64 x.f0.f2, .slice A x.f1.length x.f1.length] 46) = w5 at *
      have HB5 := Aside0.mk (below_step HB4.out hb5)
      have HF5 := Aside0.mk (Kd.F_below HF4.out hb5)
      obtain ⟨z, hzz⟩ : ∃ z, w4.heap.size = z := ⟨_, rfl⟩
      rw [hzz] at hz ⊢
      clear hb5 hzz HF4
      have z0 := (blk_cell hz 0).trans rfl
      have z1 := (blk_cell hz 1).trans rfl
      have z2 := (blk_cell hz 2).trans rfl
      have z3 := (blk_cell hz 3).trans rfl
      have HZ := Aside0.mk hz
      clear hz
      by_cases hmz : x.f0.f1 = 0
      · have HN := Aside0.mk (HNX.out.symm.trans (if_pos hmz))
        have hdz : (x.f0.f1 == 0) = true := by simpa using hmz
        clear hmz
        go_wp2_with (first | (go_at_call 17; refine (row_within.calls x.f0.f0 x.f0.f1 x.f0.f2 x.f1 A x.f1.length now _ rfl _ (Kd.F_now HF5.out) (Nat.le_refl _) HL.out).mono ?_; rintro e w6 ⟨A6, rfl, hC6, hb⟩; have HB6 := Aside0.mk (below_step HB5.out hb); have hz6 := blk_below HZ.out hb; have v1 := (blk_cell hz6 1).trans rfl; clear hb hC6 hz6))
        go_ret
        exact ⟨by rw [HN.out]; rfl, HB6.out⟩
      · have hnx := HNX.out.symm.trans (if_neg hmz)
        have hdz : (x.f0.f1 == 0) = false := by simpa using hmz
        go_upto_region 8 with (first | (go_at_call 17; refine (row_within.calls x.f0.f0 x.f0.f1 x.f0.f2 x.f1 A x.f1.length now _ rfl _ (Kd.F_now HF5.out) (Nat.le_refl _) HL.out).mono ?_; rintro e w6 ⟨A6, rfl, hC6, hb⟩; have HB6 := Aside0.mk (below_step HB5.out hb); have hz6 := blk_below HZ.out hb; have v1 := (blk_cell hz6 1).trans rfl; have v2 := (blk_cell hz6 2).trans rfl; have HC6 := Aside0.mk (hC6 _ (Kd.C_below (Kd.F_now HF5.out) hb)); clear hb hC6 hz6))
        have hin : inW x now = withinL x.f1 (wrap64 (now - x.f0.f2)) := rfl
        rw [hin] at hnx
        have hle := HLE.out
        have hlo := leftG_one x t now HM.out
        rw [HLF.out, hin] at hlo
        have hwl := HWL.out
        rw [hin] at hwl
        have hL := HL.out
        have hM0 := HM0.out
        have hM1 := HM1.out
        generalize withinL x.f1 (wrap64 (now - x.f0.f2)) = l6 at *
        obtain ⟨i, hi⟩ : ∃ i, wrap64 ((l6.length : Int) - x.f0.f1) = i := ⟨_, rfl⟩
        have hir : 0 ≤ i ∧ i < (l6.length : Int) := by
          unfold wrap64 at hi hlo
          omega
        have hi' : IntKind.i64.wrap ((l6.length : Int) - x.f0.f1) = i := (i64_w _).trans hi
        obtain ⟨ad, e, hx⟩ := Kd.at_int HC6.out i hir.1 hir.2
        cases e
        have hp1 : (0 ≤ i) = True := eq_true hir.1
        have hq1 : (i < (l6.length : Int)) = True := eq_true hir.2
        rw [hi] at hnx
        have HN := Aside0.mk hnx
        clear hnx hi
        clear hir hle hlo hwl hL hM0 hM1 hin hmz
        go_wp2
        repeat (go_quiet (fail); try go_wp2)
        all_goals go_ret
        all_goals exact ⟨by rw [HN.out]; unfold mn; first | (rw [if_pos (by assumption)]; first | rfl | (rw [← i64_w]; rfl)) | (rw [if_neg (by omega)]; first | rfl | (rw [← i64_w]; rfl)), pw_below_drewN HB6.out _⟩
end Go.Proofs.YtchfkkpghipeiaaDoor.Q
end

section
namespace Go.Proofs.YtchfkkpghipeiaaDoor.Q
open Go.RowKit Go.Shelf Go.Proofs.YtchfkkpghipeiaaDoorW.PrintWords Go.Proofs.YtchfkkpghipeiaaDoorW.PrintLast Go.Proofs.YtchfkkpghipeiaaDoorW.PrintMore
set_option linter.unusedVariables false
set_option linter.unusedSimpArgs false

def rightB (q : S23) : Bool := Utf.goodD q.f0.data.toList && decide (0 ≤ q.f1) && decide (q.f1 ≤ 1000) && decide (1 ≤ q.f2) && decide (q.f2 ≤ 1099511627776)
theorem right_f (q : S23) (h : q.f0.size < 1000000) : quota_right.f q.f0 q.f1 q.f2 = some (rightB q) := by
  unfold quota_right.f label_Good.f
  rw [if_pos (by omega), Option.bind_some, rightB]
  cases Utf.goodD q.f0.data.toList with
  | false => simp
  | true =>
    rw [if_pos rfl]
    by_cases h1 : q.f1 ≥ 0
    · by_cases h2 : q.f1 ≤ 1000
      · by_cases h3 : q.f2 ≥ 1
        · rw [if_pos h1, if_pos h2, if_pos h3, decide_eq_true (show 0 ≤ q.f1 from h1), decide_eq_true h2, decide_eq_true (show 1 ≤ q.f2 from h3)]; rfl
        · rw [if_pos h1, if_pos h2, if_neg h3, decide_eq_false (show ¬ 1 ≤ q.f2 from h3)]; simp
      · rw [if_pos h1, if_neg h2, decide_eq_false h2]; simp
    · rw [if_neg h1, decide_eq_false (show ¬ 0 ≤ q.f1 from h1)]; simp

def mk0 (q : S23) : S46 := ⟨q, []⟩
def rowq (q : S23) : List Value := [.string q.f0, .int .i64 q.f1, .int .i64 q.f2, .slice none 0 0]
/-- The place and the error. -/
def newAt : List S23 → List S23 → Int → Int × Int
  | _, [], _ => (-1, 0)
  | pre, q :: l, i => if rightB q = true then (if 0 ≤ firstI (isNamed q.f0) (pre.map mk0) 0 then (i, 6) else newAt (pre ++ [q]) l (i + 1)) else (i, 3)
def newR (l : List S23) : Int × Int := if l.length > 64 then (64, 8) else newAt [] l 0
theorem newAt_at (l : List S23) (j : Nat) (h : j < l.length) : newAt (l.take j) (l.drop j) (j : Int) = if rightB l[j] = true then (if 0 ≤ firstI (isNamed l[j].f0) ((l.take j).map mk0) 0 then ((j : Int), 6) else newAt (l.take (j + 1)) (l.drop (j + 1)) ((j + 1 : Nat) : Int)) else ((j : Int), 3) := by
  rw [List.drop_eq_getElem_cons h, newAt, List.take_succ_eq_append_getElem h]
  rfl

/-- A gate of rows without ticks, as it is made. -/
def IsN (base : Nat) (W : World) (g : Nat) (qs : List S23) : Prop :=
  ∃ v, W.heap[g]? = some (.cells #[v, .int .i64 0] 42 (0, 0)) ∧ base ≤ g ∧ (Kd.raw 4).R 46 W base (fun _ => True) v (qs.map rowq)
theorem IsN.below {base : Nat} {W W' : World} {g : Nat} {qs : List S23} (h : IsN base W g qs) (hb : Below W.heap.size W W') : IsN base W' g qs := by
  obtain ⟨v, h1, h2, h3⟩ := h
  exact ⟨v, blk_below h1 hb, h2, Kd.R_below h3 hb⟩
theorem raw_C46 {W : World} {A : Option Addr} (qs : List S23) (h : (Kd.raw 4).C W A (qs.map rowq).length (qs.map rowq)) : Kd.C k46 W A (qs.map mk0).length (qs.map mk0) := by
  obtain ⟨h1, h2, h3⟩ := h
  rw [List.length_map] at h2 h3
  refine ⟨rfl, by rw [List.length_map]; exact h2, fun hp => ?_⟩
  rw [List.length_map] at hp
  obtain ⟨ad, e, hx⟩ := h3 hp
  refine ⟨ad, e, fun j p hj => ?_⟩
  rw [List.getElem?_map] at hj
  obtain ⟨q, hq, rfl⟩ := Option.map_eq_some_iff.1 hj
  obtain ⟨cs, c1, c2, c3⟩ := hx j (rowq q) (by rw [List.getElem?_map, hq]; rfl)
  obtain rfl : cs = rowq q := c2.1
  exact ⟨rowq q, rfl, k46_mk W (mk0 q) (Nat.le_refl _) (Kd.C_nil _ _), c3⟩
theorem IsN.rd {base : Nat} {W : World} {g : Nat} {qs : List S23} (h : IsN base W g qs) : RdG W g (qs.map mk0) 0 := by
  obtain ⟨v, h1, h2, h3⟩ := h
  obtain ⟨A, c, rfl, hc, hC⟩ := Kd.R_reads h3
  rw [List.length_map] at hc h1
  refine ⟨A, c, by rw [List.length_map]; exact h1, raw_C46 qs hC, by rw [List.length_map]; exact hc⟩
theorem info46 : (Tryd.prog.info? 46).map (fun i => (i.zero, i.size, i.bytes)) = some (some (.agg #[.string ⟨#[]⟩, .int .i64 0, .int .i64 0, .slice none 0 0]), 4, 56) := by kernel_rfl

/-- What is handed back. -/
def NewG (n : Nat) (r : Int × Int) (W : World) (l : List S23) (p : Value) : Prop := if r.2 = 0 then ∃ g, p = .pointer (some ⟨g, 0, none⟩) ∧ IsN n W g l else p = .pointer none
theorem NewG.no {n : Nat} {i e : Int} {W : World} {l : List S23} (h : e ≠ 0) : NewG n (i, e) W l (.pointer none) := by
  unfold NewG
  rw [if_neg h]
theorem NewG.ok {n : Nat} {i : Int} {W : World} {l : List S23} {g : Nat} (h : IsN n W g l) : NewG n (i, 0) W l (.pointer (some ⟨g, 0, none⟩)) := by
  unfold NewG
  rw [if_pos rfl]
  exact ⟨g, rfl, h⟩

set_option maxRecDepth 100000 in
set_option maxHeartbeats 4000000 in
theorem quota_New.calls (A : Option Addr) (c : Nat) (l : List S23) (w : World) (hTab_ : Tabs_ w) (hC : Kd.C k23 w A l.length l) (hc : l.length ≤ c) (hs : ∀ q ∈ l, q.f0.size < 1000000) (hl : l.length < 1000000) :
    Calls Tryd.prog 7 #[.slice A l.length c] w fun e w' => ∃ p, e = .returned (.tuple #[p, .int .i64 (newR l).1, .int .i64 (newR l).2]) ∧ NewG w.heap.size (newR l) w' l p ∧ Below w.heap.size w w' := by
  have HTAB_ := Aside0.mk hTab_
  have HR := Aside0.mk hC
  have HSZ := Aside0.mk hs
  have HL := Aside0.mk hl
  clear hTab_ hC hc hs hl
  unfold newR
  by_cases h64 : l.length > 64
  · rw [if_pos h64]
    have hd : decide ((64 : Int) < (l.length : Int)) = true := decide_eq_true (by omega)
    go_enter Tryd.func7, Tryd.ntmps7
    go_wp2
    go_ret3
    exact ⟨_, rfl, NewG.no (by decide), Below.refl _ _⟩
  · rw [if_neg h64]
    have hd : decide ((64 : Int) < (l.length : Int)) = false := decide_eq_false (by omega)
    have H64 := Aside0.mk h64
    clear h64
    obtain ⟨nr, hnr⟩ : ∃ nr, newAt [] l 0 = nr := ⟨_, rfl⟩
    have HNR := Aside0.mk hnr
    rw [hnr]
    clear hnr
    go_enter Tryd.func7, Tryd.ntmps7
    go_upto_region 4 with (fail)
    have hb1 : Below w.heap.size w (w.alloc (.cells #[.slice none 0 0, .int .i64 0] 42)) := (Below.refl _ w).alloc (Nat.le_refl _) _
    have hg1 := blk_new w (.cells #[.slice none 0 0, .int .i64 0] 42)
    generalize w.alloc (.cells #[.slice none 0 0, .int .i64 0] 42) = W1 at *
    obtain ⟨g, hg⟩ : ∃ g, w.heap.size = g := ⟨_, rfl⟩
    have HGW := Aside0.mk hg
    have HN1 := Aside0.mk (show IsN w.heap.size W1 g [] from ⟨_, by rw [← hg]; exact hg1, Nat.le_of_eq hg, Kd.R_nil _ _ _ _ _⟩)
    have HB1 := Aside0.mk hb1
    have HS1 := Aside0.mk hb1.size
    have hgg : (w.heap.size = g) := hg
    rw [hg]
    clear hb1 hg1 hg hgg
    go_wp2
    go_loopw [2, 14] (fun v2 v14 W => v2 = .pointer (some ⟨g, 0, none⟩) ∧ ∃ j : Nat, j ≤ l.length ∧ v14 = .int .i64 (j : Int) ∧ Aside0 (newAt (l.take j) (l.drop j) (j : Int) = nr) ∧ Aside0 (IsN w.heap.size W g (l.take j)) ∧ Aside0 (Below w.heap.size w W)) (fun _ v14 _ => l.length - (intOf v14).toNat)
    case atStart => exact ⟨rfl, 0, Nat.zero_le _, rfl, HNR, HN1, HB1⟩
    case round =>
      clear HN1 HB1 HS1 HNR
      obtain ⟨rfl, j, hj, rfl, HF, HN, HB⟩ := hrel
      by_cases hlt : j < l.length
      rotate_left
      · have hjl : j = l.length := by omega
        subst hjl
        have hd1 : decide ((l.length : Int) < (l.length : Int)) = false := decide_eq_false (by omega)
        have hf := HF.out
        rw [List.drop_length, newAt] at hf
        have HF2 := Aside0.mk hf
        have hn := HN.out
        rw [List.take_length] at hn
        have HN2 := Aside0.mk hn
        clear hf hn
        go_wp2
        go_ret3
        rw [← HF2.out]
        exact ⟨_, rfl, NewG.ok HN2.out, HB.out⟩
      have HFA := Aside0.mk (HF.out.symm.trans (newAt_at l j hlt))
      obtain ⟨ad, e, x0, x1, x2⟩ := at_T23 HR.out (j : Int) (by omega) (by omega)
      cases e
      have HX := Aside0.mk (show rd_T23 l (j : Int) = l[j] by
        unfold rd_T23
        rw [Int.toNat_natCast, List.getD_eq_getElem?_getD, List.getElem?_eq_getElem hlt]
        rfl)
      have HSQ := Aside0.mk (HSZ.out _ (List.getElem_mem hlt))
      have HTK := Aside0.mk (List.take_succ_eq_append_getElem hlt)
      replace x0 := (HB.out.cell (World.block_lt_of_cell? w _ x0)).trans x0
      replace x1 := (HB.out.cell (World.block_lt_of_cell? w _ x1)).trans x1
      replace x2 := (HB.out.cell (World.block_lt_of_cell? w _ x2)).trans x2
      rw [HX.out] at x0 x1 x2
      clear HX
      generalize l[j] = qq at *
      obtain ⟨i, hi⟩ : ∃ i : Int, (j : Int) = i := ⟨_, rfl⟩
      have HI := Aside0.mk hi
      have hp1 : (0 ≤ i) = True := eq_true (by omega)
      have hq1 : (i < (l.length : Int)) = True := eq_true (by omega)
      have hd1 : decide (i < (l.length : Int)) = true := decide_eq_true (by omega)
      have HK := Aside0.mk (show wrap64 (i + 1) = ((j + 1 : Nat) : Int) by unfold wrap64; have := HL.out; omega)
      rw [hi] at x0 x1 x2 HFA ⊢
      clear hi
      go_upto_region 7 with (fail)
      have hz := blk_new wr (.cells #[.string qq.f0, .int .i64 qq.f1, .int .i64 qq.f2] 23)
      have hb8 : Below wr.heap.size wr (wr.alloc (.cells #[.string qq.f0, .int .i64 qq.f1, .int .i64 qq.f2] 23)) := below_alloc (Below.refl _ _) _
      clear x0 x1 x2
      generalize wr.alloc (.cells #[.string qq.f0, .int .i64 qq.f1, .int .i64 qq.f2] 23) = W8 at *
      have HN8 := Aside0.mk (HN.out.below hb8)
      have HB8 := Aside0.mk (below_step HB.out hb8)
      obtain ⟨z, hzz⟩ : ∃ z, wr.heap.size = z := ⟨_, rfl⟩
      rw [hzz] at hz ⊢
      have HZ := Aside0.mk hz
      clear hz hb8 hzz HN HB
      have z0 : W8.cell? ⟨z, 0, none⟩ = some (.string qq.f0) := (blk_cell HZ.out 0).trans rfl
      have z1 : W8.cell? ⟨z, 1, none⟩ = some (.int .i64 qq.f1) := (blk_cell HZ.out 1).trans rfl
      have z2 : W8.cell? ⟨z, 2, none⟩ = some (.int .i64 qq.f2) := (blk_cell HZ.out 2).trans rfl
      cases hrb : rightB qq with
      | false =>
        have HRF := Aside0.mk ((right_f qq HSQ.out).trans (congrArg some hrb))
        have HFB := Aside0.mk (HFA.out.trans (if_neg (by rw [hrb]; decide)))
        clear hrb
        go_wp2_with (first | (go_at_call 14; refine (quota_right.calls qq.f0 qq.f1 qq.f2 false _ (HTAB_.out.below HB8.out) HRF.out).mono ?_; rintro e w9 ⟨rfl, hb⟩; have HB9 := Aside0.mk (below_step HB8.out hb); clear hb))
        go_ret3
        rw [HFB.out]
        exact ⟨_, rfl, NewG.no (by decide), HB9.out⟩
      | true =>
        have HRF := Aside0.mk ((right_f qq HSQ.out).trans (congrArg some hrb))
        have hfb := HFA.out.trans (if_pos hrb)
        clear hrb
        obtain ⟨fi, hfi⟩ : ∃ fi, firstI (isNamed qq.f0) ((l.take j).map mk0) 0 = fi := ⟨_, rfl⟩
        rw [hfi] at hfb
        have HFI := Aside0.mk hfi
        have HLT := Aside0.mk (show ((l.take j).map mk0).length < 1000000 by rw [List.length_map, List.length_take]; have := HL.out; omega)
        clear hfi
        by_cases hge : 0 ≤ fi
        · have HFB := Aside0.mk (hfb.trans (if_pos hge))
          have hd2 : decide (0 ≤ fi) = true := decide_eq_true hge
          clear hge hfb
          go_wp2_with (first | (go_at_call 14; refine (quota_right.calls qq.f0 qq.f1 qq.f2 true _ (HTAB_.out.below HB8.out) HRF.out).mono ?_; rintro e w9 ⟨rfl, hb⟩; have HB9 := Aside0.mk (below_step HB8.out hb); have HN9 := Aside0.mk (HN8.out.below hb); have v0 : w9.cell? ⟨z, 0, none⟩ = some (.string qq.f0) := (blk_cell (blk_below HZ.out hb) 0).trans rfl; clear hb) | (go_at_call 15; refine (quota_find.calls g qq.f0 _ 0 _ HN9.out.rd HLT.out).mono ?_; rw [HFI.out]; rintro e w10 ⟨rfl, hb⟩; have HB10 := Aside0.mk (below_step HB9.out hb); clear hb))
          go_ret3
          rw [HFB.out]
          exact ⟨_, rfl, NewG.no (by decide), HB10.out⟩
        have HFB := Aside0.mk (hfb.trans (if_neg hge))
        have hd2 : decide (0 ≤ fi) = false := decide_eq_false hge
        clear hge hfb
        go_upto_region 11 with (first | (go_at_call 14; refine (quota_right.calls qq.f0 qq.f1 qq.f2 true _ (HTAB_.out.below HB8.out) HRF.out).mono ?_; rintro e w9 ⟨rfl, hb⟩; have HB9 := Aside0.mk (below_step HB8.out hb); have HN9 := Aside0.mk (HN8.out.below hb); have HZ9 := Aside0.mk (blk_below HZ.out hb); have v0 : w9.cell? ⟨z, 0, none⟩ = some (.string qq.f0) := (blk_cell (blk_below HZ.out hb) 0).trans rfl; clear hb) | (go_at_call 15; refine (quota_find.calls g qq.f0 _ 0 _ HN9.out.rd HLT.out).mono ?_; rw [HFI.out]; rintro e W5 ⟨rfl, hb⟩; have HB10 := Aside0.mk (below_step HB9.out hb); have HN10 := Aside0.mk (HN9.out.below hb); have HZ10 := Aside0.mk (blk_below HZ9.out hb); clear hb))
        obtain ⟨v, hg5, hgb, hR5⟩ := HN10.out
        have y0 : W5.drew.cell? ⟨g, 0, none⟩ = some v := (blk_cell hg5 0).trans rfl
        clear z0 z1 z2 v0
        have z0 : W5.drew.cell? ⟨z, 0, none⟩ = some (.string qq.f0) := (blk_cell HZ10.out 0).trans rfl
        have z1 : W5.drew.cell? ⟨z, 1, none⟩ = some (.int .i64 qq.f1) := (blk_cell HZ10.out 1).trans rfl
        have z2 : W5.drew.cell? ⟨z, 2, none⟩ = some (.int .i64 qq.f2) := (blk_cell HZ10.out 2).trans rfl
        have HAL := Aside0.mk (show Below W5.drew.heap.size W5.drew (W5.drew.alloc (.cells (rowq qq).toArray 46)) from below_alloc (Below.refl _ _) _)
        have HG5 := Aside0.mk hg5
        have HGB := Aside0.mk hgb
        have HR5 := Aside0.mk hR5
        clear hg5 hgb hR5
        refine start_ (n := 12) (S := fun w' => w'.cell? ⟨g, 0, none⟩ = some v ∧ w'.cell? ⟨z, 0, none⟩ = some (.string qq.f0) ∧ w'.cell? ⟨z, 1, none⟩ = some (.int .i64 qq.f1) ∧ w'.cell? ⟨z, 2, none⟩ = some (.int .i64 qq.f2)) (ds := [8, 11]) #[false, false, false, false, false, false, false, false, false, false, false, false] (by kernel_rfl) rfl rfl ⟨y0, z0, z1, z2⟩ (fun hHeld => ?_)
        refine pure_ (i := 0) (N := some 29) (v := ?_) (a' := ?_) #[true, false, false, false, false, false, false, false, false, false, false, false] rfl rfl (by kernel_rfl) (fun _ _ _ h => h) (Or.inl ⟨by rfl, ?_⟩) ?_ ?_
        rotate_left
        · intro w'
          go_simp
          with_reducible rfl
        rotate_left
        · simp only [Act.put, List.setIfInBounds_toArray, List.set_cons_zero, List.set_cons_succ, i64_w, i32_w]
          rfl
        refine pure_ (i := 1) (N := some 30) (v := ?_) (a' := ?_) #[true, true, false, false, false, false, false, false, false, false, false, false] rfl rfl (by kernel_rfl) (fun _ _ _ h => h) (Or.inl ⟨by rfl, ?_⟩) ?_ ?_
        rotate_left
        · intro w'
          go_simp
          with_reducible rfl
        rotate_left
        · simp only [Act.put, List.setIfInBounds_toArray, List.set_cons_zero, List.set_cons_succ, i64_w, i32_w]
          rfl
        refine pure_ (i := 2) (N := some 31) (v := ?_) (a' := ?_) #[true, true, true, false, false, false, false, false, false, false, false, false] rfl rfl (by kernel_rfl) (fun _ _ _ h => h) (Or.inl ⟨by rfl, ?_⟩) ?_ ?_
        rotate_left
        · intro w'
          go_simp
          with_reducible rfl
        rotate_left
        · simp only [Act.put, List.setIfInBounds_toArray, List.set_cons_zero, List.set_cons_succ, i64_w, i32_w]
          rfl
        refine pure_ (i := 3) (N := some 32) (v := ?_) (a' := ?_) #[true, true, true, true, false, false, false, false, false, false, false, false] rfl rfl (by kernel_rfl) (fun _ _ _ h => h) (Or.inl ⟨by rfl, ?_⟩) ?_ ?_
        rotate_left
        · intro w'
          go_simp
          with_reducible rfl
        rotate_left
        · simp only [Act.put, List.setIfInBounds_toArray, List.set_cons_zero, List.set_cons_succ, i64_w, i32_w]
          rfl
        refine take_ (i := 4) (N := some 33) (v := ?_) (a' := ?_) #[true, true, true, true, true, false, false, false, false, false, false, false] rfl rfl (by kernel_rfl) (fun _ _ _ h => h) (Or.inl ⟨by rfl, ?_⟩) hHeld ?_ ?_
        rotate_left
        · rintro w' ⟨s0, s1, s2, s3⟩
          go_simp
          with_reducible rfl
        rotate_left
        · simp only [Act.put, List.setIfInBounds_toArray, List.set_cons_zero, List.set_cons_succ, i64_w, i32_w]
          rfl
        refine take_ (i := 5) (N := some 34) (v := ?_) (a' := ?_) #[true, true, true, true, true, true, false, false, false, false, false, false] rfl rfl (by kernel_rfl) (fun _ _ _ h => h) (Or.inl ⟨by rfl, ?_⟩) hHeld ?_ ?_
        rotate_left
        · rintro w' ⟨s0, s1, s2, s3⟩
          go_simp
          with_reducible rfl
        rotate_left
        · simp only [Act.put, List.setIfInBounds_toArray, List.set_cons_zero, List.set_cons_succ, i64_w, i32_w]
          rfl
        refine pure_ (i := 6) (N := some 35) (v := ?_) (a' := ?_) #[true, true, true, true, true, true, true, false, false, false, false, false] rfl rfl (by kernel_rfl) (fun _ _ _ h => h) (Or.inl ⟨by rfl, ?_⟩) ?_ ?_
        rotate_left
        · intro w'
          go_simp
          with_reducible rfl
        rotate_left
        · simp only [Act.put, List.setIfInBounds_toArray, List.set_cons_zero, List.set_cons_succ, i64_w, i32_w]
          rfl
        refine one_ (i := 7) (N := some 36) #[true, true, true, true, true, true, true, true, false, false, false, false] rfl rfl (by kernel_rfl) (by decide) (fun K hK => ?_)
        refine value_ (w1 := ?_) (v := ?_) (by rfl) rfl ?_ ?_
        rotate_left 2
        · go_simp
          constructor
          · rfl
          · rfl
        refine hK.out _ _ ⟨(HAL.out.cell (p := ⟨g, 0, none⟩) (World.block_lt_of_cell? _ _ y0)).trans y0, (HAL.out.cell (p := ⟨z, 0, none⟩) (World.block_lt_of_cell? _ _ z0)).trans z0, (HAL.out.cell (p := ⟨z, 1, none⟩) (World.block_lt_of_cell? _ _ z1)).trans z1, (HAL.out.cell (p := ⟨z, 2, none⟩) (World.block_lt_of_cell? _ _ z2)).trans z2⟩ (fun hHeld => ?_)
        clear hK K
        refine norm_ (a' := ?_) ?_ ?_
        rotate_left
        · show Act.put _ (some 36) _ = _
          simp only [Act.put, List.setIfInBounds_toArray, List.set_cons_zero, List.set_cons_succ, i64_w, i32_w]
          rfl
        refine last_ (i := 8) (N := some 37) #[true, true, true, true, true, true, true, true, true, false, false, false] rfl rfl (by kernel_rfl) (by decide) (fun K hK => ?_)
        refine Kd.R_append_step (Kd.raw 4) (w0 := w) w.heap.size (by rfl) (.tmp 33) (.tmp 36) 40 46 (.agg #[.string ⟨#[]⟩, .int .i64 0, .int .i64 0, .slice none 0 0]) 56 rfl (by rfl) info46 rfl (by decide) (by decide) v ((l.take j).map rowq) (rowq qq) (rowq qq) (fun _ => True) (fun _ => False) rfl rfl ⟨rfl, rfl, by intro u hu; simp [rowq] at hu; rcases hu with rfl | rfl | rfl | rfl <;> rfl⟩ (fun _ h => h.elim) (fun _ _ => trivial) (Kd.R_drew HR5.out) (below_drew1 HB10.out) (HB10.out.size) (by rw [List.length_map, List.length_take]; have := HL.out; omega) ?_
        intro v6 w6 hR6 hB6 hg6 hat6
        obtain ⟨A6, n6, c6, rfl⟩ : ∃ A n c, v6 = .slice A n c := by
          obtain ⟨A, c, e, _⟩ := Kd.R_reads hR6
          exact ⟨A, _, c, e⟩
        have HG6 := Aside0.mk (blk_grown (blk_drew HG5.out) hg6 (Kd.R_ne HR5.out HG5.out (by decide)))
        have HR6 := Aside0.mk hR6
        have HB6 := Aside0.mk hB6
        clear hR6 hB6 hg6 hat6
        have fz6 := blk_frozen HG6.out 0
        have v60 := (blk_cell HG6.out 0).trans rfl
        refine hK.out _ _ ?_
        clear hK K
        refine norm_ (a' := ?_) ?_ ?_
        rotate_left
        · show Act.put _ (some 37) _ = _
          simp only [Act.put, List.setIfInBounds_toArray, List.set_cons_zero, List.set_cons_succ, i64_w, i32_w]
          rfl
        refine pure_ (i := 9) (N := some 38) (v := ?_) (a' := ?_) #[true, true, true, true, true, true, true, true, true, true, false, false] rfl rfl (by kernel_rfl) (fun _ _ _ h => h) (Or.inl ⟨by rfl, ?_⟩) ?_ ?_
        rotate_left
        · intro w'
          go_simp
          with_reducible rfl
        rotate_left
        · simp only [Act.put, List.setIfInBounds_toArray, List.set_cons_zero, List.set_cons_succ, i64_w, i32_w]
          rfl
        refine pure_ (i := 10) (N := some 39) (v := ?_) (a' := ?_) #[true, true, true, true, true, true, true, true, true, true, true, false] rfl rfl (by kernel_rfl) (fun _ _ _ h => h) (Or.inl ⟨by rfl, ?_⟩) ?_ ?_
        rotate_left
        · intro w'
          go_simp
          with_reducible rfl
        rotate_left
        · simp only [Act.put, List.setIfInBounds_toArray, List.set_cons_zero, List.set_cons_succ, i64_w, i32_w]
          rfl
        refine last_ (i := 11) (N := none) #[true, true, true, true, true, true, true, true, true, true, true, true] rfl rfl (by kernel_rfl) (by decide) (fun K hK => ?_)
        refine skip_ (w1 := ?_) (by rfl) rfl ?_ ?_
        rotate_left
        · go_simp
          rfl
        refine hK.out _ _ ?_
        clear hK K
        refine done_ (by kernel_rfl) ?_
        have hgA := blk_put HG6.out 0 (.slice A6 n6 c6) (cs' := #[(.slice A6 n6 c6), .int .i64 0]) rfl
        have hRA := Kd.R_far (p := ⟨g, 0, none⟩) (Kd.R_mono (Kd.R_types HR6.out HG6.out (by decide)) (ok' := fun k => k ≠ g) (fun k hk => hk.2)) (fun k hk => hk) (.slice A6 n6 c6)
        have HBA := Aside0.mk (HB6.out.setCell (p := ⟨g, 0, none⟩) HGB.out (.slice A6 n6 c6))
        have HNA := Aside0.mk (show IsN w.heap.size (w6.setCell ⟨g, 0, none⟩ (.slice A6 n6 c6)) g (l.take (j + 1)) from ⟨(.slice A6 n6 c6), hgA, HGB.out, by rw [HTK.out, List.map_append]; exact Kd.R_mono hRA (fun _ _ => trivial)⟩)
        clear hgA hRA hHeld fz6 v60
        go_wp2
        go_roundw
        case rel => exact ⟨rfl, j + 1, by omega, by rw [HK.out], ⟨HFB.out.symm⟩, HNA, HBA⟩
        case measure => have := HI.out; simp [intOf, HK.out]; omega
end Go.Proofs.YtchfkkpghipeiaaDoor.Q
end

section
namespace Go.Proofs.YtchfkkpghipeiaaDoor.Q
open Go.RowKit Go.Shelf Go.Proofs.YtchfkkpghipeiaaDoorW.PrintWords Go.Proofs.YtchfkkpghipeiaaDoorW.PrintLast Go.Proofs.YtchfkkpghipeiaaDoorW.PrintMore
set_option linter.unusedVariables false
set_option linter.unusedSimpArgs false

theorem IsN.one {base : Nat} {W : World} {g : Nat} {q : S23} (h : IsN base W g [q]) : ∃ b, IsG base (fun _ => True) W g b (mk0 q) 0 := by
  obtain ⟨v, h1, h2, h3⟩ := h
  obtain ⟨h30, inner, ho, hr⟩ := h3
  obtain ⟨hil, ho⟩ := ho
  rcases ho with ⟨_, h0⟩ | ⟨b, cap, cur, rfl, hb, hcur, hc1, hc2, hc3, hc4⟩
  · simp at h0
  · have hin : inner = rowq q := by
      have h5 := (hr.2 0 (rowq q) rfl).1
      rw [Nat.zero_mul, List.drop_zero] at h5
      rw [← h5]; exact (List.take_of_length_le (Nat.le_of_eq (hil.trans rfl))).symm
    have hcu : cur = rowC (mk0 q) none (cur.toList.drop 4).toArray := by
      apply Array.ext'
      have h6 : cur.toList.take 4 = rowq q := by rw [← hin]; exact hc4
      have : (rowC (mk0 q) none (cur.toList.drop 4).toArray).toList = rowq q ++ cur.toList.drop 4 := by simp [rowC, rowq, mk0]
      rw [this, ← h6, List.take_append_drop]
    rw [hcu] at hcur
    exact ⟨b, cap, none, _, h1, hcur, hc1, h2, hb, Kd.F_nil _ _ _⟩

def qA : S23 := ⟨⟨#[97]⟩, 1, 10⟩
theorem right_qA : rightB qA = true := by decide +kernel
theorem new_qA : newR [qA] = (-1, 0) := by
  unfold newR
  rw [if_neg (by decide), newAt, if_pos right_qA, if_neg (by decide), newAt]
theorem q1E : takeE (mk0 qA) 0 3 = 0 := by decide +kernel
theorem q1X : takeX (mk0 qA) 0 3 = ⟨qA, [3]⟩ := by
  rw [takeX, if_pos q1E]
  exact congrArg (S46.mk qA) (by decide +kernel)
theorem q1T : takeT (mk0 qA) 0 3 = 3 := by rw [takeT, if_pos q1E]
theorem q2E : takeE ⟨qA, [3]⟩ 3 12 = 17 := by decide +kernel
theorem q2X : takeX ⟨qA, [3]⟩ 3 12 = ⟨qA, [3]⟩ := by rw [takeX, q2E, if_neg (by decide)]
theorem q2T : takeT ⟨qA, [3]⟩ 3 12 = 3 := by rw [takeT, q2E, if_neg (by decide)]
theorem q3 : nextG ⟨qA, [3]⟩ 3 5 = 13 := by decide +kernel
theorem q4E : takeE ⟨qA, [3]⟩ 3 13 = 0 := by decide +kernel

theorem take_q1 (base g b : Nat) (w : World) (hG : IsG base (fun _ => True) w g b (mk0 qA) 0) (hbase : base ≤ w.heap.size) : Calls Tryd.prog 8 #[.pointer (some ⟨g, 0, none⟩), .string ⟨#[97]⟩, .int .i64 3] w fun e w' => e = .returned (.int .i64 0) ∧ IsG base (fun _ => True) w' g b ⟨qA, [3]⟩ 3 ∧ BG base g b w w' := by
  have h := quota_Take.calls base g b (fun _ => True) (mk0 qA) 0 3 w hG hbase (fun _ _ => trivial) (by decide)
  rw [q1E, q1X, q1T] at h
  exact h
theorem take_q2 (base g b : Nat) (w : World) (hG : IsG base (fun _ => True) w g b ⟨qA, [3]⟩ 3) (hbase : base ≤ w.heap.size) : Calls Tryd.prog 8 #[.pointer (some ⟨g, 0, none⟩), .string ⟨#[97]⟩, .int .i64 12] w fun e w' => e = .returned (.int .i64 17) ∧ IsG base (fun _ => True) w' g b ⟨qA, [3]⟩ 3 ∧ BG base g b w w' := by
  have h := quota_Take.calls base g b (fun _ => True) ⟨qA, [3]⟩ 3 12 w hG hbase (fun _ _ => trivial) (by decide)
  rw [q2E, q2X, q2T] at h
  exact h
theorem next_q3 (base g b : Nat) (w : World) (hG : IsG base (fun _ => True) w g b ⟨qA, [3]⟩ 3) : Calls Tryd.prog 9 #[.pointer (some ⟨g, 0, none⟩), .string ⟨#[97]⟩, .int .i64 5] w fun e w' => e = .returned (.int .i64 13) ∧ Below w.heap.size w w' := by
  have h := quota_Next.calls base g b (fun _ => True) ⟨qA, [3]⟩ 3 5 w hG (by decide) (by decide) (by decide)
  rw [q3] at h
  exact h
theorem take_q4 (base g b : Nat) (w : World) (hG : IsG base (fun _ => True) w g b ⟨qA, [3]⟩ 3) (hbase : base ≤ w.heap.size) : Calls Tryd.prog 8 #[.pointer (some ⟨g, 0, none⟩), .string ⟨#[97]⟩, .int .i64 13] w fun e w' => e = .returned (.int .i64 0) ∧ BG base g b w w' := by
  have h := quota_Take.calls base g b (fun _ => True) ⟨qA, [3]⟩ 3 13 w hG hbase (fun _ _ => trivial) (by decide)
  rw [q4E] at h
  exact h.mono (fun e w' hh => ⟨hh.1, hh.2.2⟩)

set_option maxRecDepth 100000 in
set_option maxHeartbeats 4000000 in
theorem usufructlaw32_awake.calls (w : World) (hTab_ : Tabs_ w) :
    Calls Tryd.prog 6 #[] w fun e w' => e = .returned (.bool true) ∧ Below w.heap.size w w' := by
  have HTAB_ := Aside0.mk hTab_
  clear hTab_
  go_enter Tryd.func6, Tryd.ntmps6
  go_upto_region 1 with (fail)
  have hb1 : Below w.heap.size w (w.alloc (.cells #[.string ⟨#[97]⟩, .int .i64 1, .int .i64 10] 23)) := (Below.refl _ w).alloc (Nat.le_refl _) _
  have hC : Kd.C k23 (w.alloc (.cells #[.string ⟨#[97]⟩, .int .i64 1, .int .i64 10] 23)) (some ⟨w.heap.size, 0, none⟩) [qA].length [qA] := by
    refine ⟨rfl, by decide, fun _ => ⟨_, rfl, fun j p hj => ?_⟩⟩
    cases j with
    | succ j => cases hj
    | zero =>
      cases hj
      refine ⟨_, rfl, k23_mk _ qA, fun j u hj => ?_⟩
      have hc := fun i => blk_cell (blk_new w (.cells #[.string ⟨#[97]⟩, .int .i64 1, .int .i64 10] 23)) i
      have e : ((⟨w.heap.size, 0, none⟩ : Addr).add (0 * k23.sz + j)) = ⟨w.heap.size, j, none⟩ := by rw [Nat.zero_mul, Nat.zero_add, Addr.add_lit, Nat.zero_add]
      rw [e, hc]
      match j, hj with
      | 0, hj => exact hj
      | 1, hj => exact hj
      | 2, hj => exact hj
      | j + 3, hj => cases hj
  have HB1 := Aside0.mk hb1
  have HC1 := Aside0.mk hC
  clear hb1 hC
  go_upto_region 2 with (go_at_call 7; refine (quota_New.calls (some ⟨w.heap.size, 0, none⟩) 1 [qA] _ (HTAB_.out.below HB1.out) HC1.out (Nat.le_refl _) (by intro q hq; rw [List.mem_singleton] at hq; subst hq; decide) (by simp)).mono ?_; rw [new_qA]; rintro e w2 ⟨p, rfl, hp, hb⟩; have HP := Aside0.mk hp; have HB2 := Aside0.mk (below_step HB1.out hb); have HBA := Aside0.mk HB1.out.size; clear hb hp)
  have hp := HP.out
  unfold NewG at hp
  rw [if_pos rfl] at hp
  obtain ⟨g, rfl, hN⟩ := hp
  obtain ⟨b, hG⟩ := hN.one
  have HG := Aside0.mk (hG.lower HBA.out)
  clear hG
  clear hN HP
  have HW2 := Aside0.mk HB2.out.size
  go_wp2_with (first
    | (go_at_call 8; (with_reducible refine (take_q1 w.heap.size g b _ HG.out HW2.out).mono ?_); rintro e w3 ⟨rfl, hG3, hb⟩; have HG3 := Aside0.mk hG3; have HB3 := Aside0.mk (HB2.out.trans hb.1); have HW3 := Aside0.mk HB3.out.size; clear hG3 hb)
    | (go_at_call 8; (with_reducible refine (take_q2 w.heap.size g b _ HG3.out HW3.out).mono ?_); rintro e w4 ⟨rfl, hG4, hb⟩; have HG4 := Aside0.mk hG4; have HB4 := Aside0.mk (HB3.out.trans hb.1); have HW4 := Aside0.mk HB4.out.size; clear hG4 hb)
    | (go_at_call 9; (with_reducible refine (next_q3 w.heap.size g b _ HG4.out).mono ?_); rintro e w5 ⟨rfl, hb⟩; have HG5 := Aside0.mk (HG4.out.below hb); have HB5 := Aside0.mk (HB4.out.trans (hb.mono HW4.out)); have HW5 := Aside0.mk HB5.out.size; clear hb)
    | (go_at_call 8; (with_reducible refine (take_q4 w.heap.size g b _ HG5.out HW5.out).mono ?_); rintro e w6 ⟨rfl, hb⟩; have HB6 := Aside0.mk (HB5.out.trans hb.1); clear hb))
  go_ret
  exact ⟨rfl, HB6.out⟩
end Go.Proofs.YtchfkkpghipeiaaDoor.Q
end

section
namespace Go.Proofs.YtchfkkpghipeiaaDoor.Q
open Go.RowKit Go.Shelf Go.Proofs.YtchfkkpghipeiaaDoorW.PrintWords Go.Proofs.YtchfkkpghipeiaaDoorW.PrintLast Go.Proofs.YtchfkkpghipeiaaDoorW.PrintMore
set_option linter.unusedVariables false

/-- Tick j. -/
def aL (L : List Int) (j : Nat) : Int := L.getD j 0
theorem aL_append (L : List Int) (y : Int) (j : Nat) : aL (L ++ [y]) j = if j < L.length then aL L j else if j = L.length then y else 0 := by
  unfold aL
  rw [List.getD_eq_getElem?_getD, List.getD_eq_getElem?_getD]
  by_cases h : j < L.length
  · rw [if_pos h, List.getElem?_append_left h]
  · rw [if_neg h, List.getElem?_append_right (by omega)]
    by_cases h2 : j = L.length
    · subst h2; simp
    · rw [if_neg h2, List.getElem?_eq_none (by simp; omega)]; rfl
theorem withinL_drop (L : List Int) (lim : Int) : ∀ (n d : Nat), L.length - d = n → d ≤ L.length → ∃ e, d ≤ e ∧ e ≤ L.length ∧ withinL (L.drop d) lim = L.drop e ∧ (∀ j, d ≤ j → j < e → aL L j ≤ lim) ∧ (e < L.length → lim < aL L e)
  | 0, d, hn, hd => ⟨d, Nat.le_refl _, hd, by rw [List.drop_of_length_le (by omega)]; rfl, fun j h1 h2 => by omega, fun h => by omega⟩
  | n + 1, d, hn, hd => by
    have hlt : d < L.length := by omega
    have ha : aL L d = L[d] := by
      unfold aL
      rw [List.getD_eq_getElem?_getD, List.getElem?_eq_getElem hlt]; rfl
    by_cases h : L[d] ≤ lim
    · obtain ⟨e, h1, h2, h3, h4, h5⟩ := withinL_drop L lim n (d + 1) (by omega) (by omega)
      refine ⟨e, by omega, h2, by rw [withinL_go L lim d hlt h]; exact h3, fun j j1 j2 => ?_, h5⟩
      by_cases hj : j = d
      · subst hj; rw [ha]; exact h
      · exact h4 j (by omega) j2
    · exact ⟨d, Nat.le_refl _, hd, withinL_stop L lim d hlt h, fun j j1 j2 => by omega, fun _ => by rw [ha]; omega⟩
theorem withinL_snoc (l : List Int) (y lim : Int) (h : lim < y) : withinL (l ++ [y]) lim = withinL l lim ++ [y] := by
  unfold withinL
  induction l with
  | nil => simp [List.dropWhile_cons]; omega
  | cons a l ih =>
    rw [List.cons_append, List.dropWhile_cons, List.dropWhile_cons]
    by_cases ha : a ≤ lim
    · rw [if_pos (by simpa using ha), if_pos (by simpa using ha)]; exact ih
    · rw [if_neg (by simpa using ha), if_neg (by simpa using ha)]; rfl

/-- What was let through, and what the gate holds of it. -/
structure Inv (q : S23) (x : S46) (t : Int) (L : List Int) : Prop where
  quo : x.f0 = q
  t0 : 0 ≤ t
  t1 : t ≤ 1099511627776
  held : ∃ d, d ≤ L.length ∧ x.f1 = L.drop d ∧ ∀ j, j < d → aL L j ≤ t - q.f2
  low : ∀ j, j < L.length → 0 ≤ aL L j
  top : ∀ j, j < L.length → aL L j ≤ t
  up : ∀ i j, i ≤ j → j < L.length → aL L i ≤ aL L j
  few : ∀ i m, i ≤ m → m < L.length → aL L m < aL L i + q.f2 → (m : Int) - i + 1 ≤ q.f1
theorem Inv.new (q : S23) : Inv q (mk0 q) 0 [] := ⟨rfl, Int.le_refl _, by decide, ⟨0, Nat.le_refl _, rfl, fun j h => by omega⟩, fun j h => by simp at h, fun j h => by simp at h, fun i j _ h => by simp at h, fun i m _ h => by simp at h⟩
theorem right_of {q : S23} (h : rightB q = true) : 0 ≤ q.f1 ∧ q.f1 ≤ 1000 ∧ 1 ≤ q.f2 ∧ q.f2 ≤ 1099511627776 := by
  unfold rightB at h
  simp only [Bool.and_eq_true, decide_eq_true_eq] at h
  obtain ⟨⟨⟨⟨_, h1⟩, h2⟩, h3⟩, h4⟩ := h
  exact ⟨h1, h2, h3, h4⟩
theorem may_of {t now : Int} (h : mayG t now = true) : 0 ≤ now ∧ now ≤ 1099511627776 ∧ t ≤ now := by
  unfold mayG at h
  simp only [Bool.and_eq_true, decide_eq_true_eq] at h
  exact ⟨h.1.1, h.1.2, h.2⟩
/-- What lies within the window of a tick. -/
theorem Inv.within {q : S23} {x : S46} {t : Int} {L : List Int} (hr : rightB q = true) (hI : Inv q x t L) (now : Int) (hm : mayG t now = true) :
    ∃ e, e ≤ L.length ∧ inW x now = L.drop e ∧ (∀ j, j < e → aL L j ≤ now - q.f2) ∧ (e < L.length → now - q.f2 < aL L e) ∧ ((L.drop e).length : Int) ≤ q.f1 := by
  obtain ⟨r1, r2, r3, r4⟩ := right_of hr
  obtain ⟨n0, n1, n2⟩ := may_of hm
  obtain ⟨d, hd, hx, hlo⟩ := hI.held
  have hw : wrap64 (now - x.f0.f2) = now - q.f2 := by rw [hI.quo]; unfold wrap64; omega
  obtain ⟨e, h1, h2, h3, h4, h5⟩ := withinL_drop L (now - q.f2) _ d rfl hd
  have hall : ∀ j, j < e → aL L j ≤ now - q.f2 := fun j hj => by
    by_cases hjd : j < d
    · have := hlo j hjd; omega
    · exact h4 j (by omega) hj
  refine ⟨e, h2, by unfold inW; rw [hw, hx]; exact h3, hall, h5, ?_⟩
  rw [List.length_drop]
  by_cases he : e < L.length
  · have g1 := hI.few e (L.length - 1) (by omega) (by omega) (by have := h5 he; have := hI.top (L.length - 1) (by omega); omega)
    omega
  · omega
theorem Inv.step {q : S23} {x : S46} {t : Int} {L : List Int} (hr : rightB q = true) (hI : Inv q x t L) (hlen : L.length < 1000000) (now : Int) (he0 : takeE x t now = 0) : Inv q (takeX x t now) (takeT x t now) (L ++ [now]) := by
  obtain ⟨r1, r2, r3, r4⟩ := right_of hr
  rw [takeX, takeT, if_pos he0, if_pos he0]
  unfold takeE at he0
  by_cases hm : mayG t now = true
  · rw [if_pos hm] at he0
    by_cases hl : leftG [x] t x.f0.f0 now = 0
    · rw [if_pos hl] at he0; exact absurd he0 (by decide)
    · obtain ⟨n0, n1, n2⟩ := may_of hm
      obtain ⟨e, e1, e2, e3, e4, e5⟩ := hI.within hr now hm
      rw [leftG_one x t now hm, e2, hI.quo] at hl
      have hlt : ((L.drop e).length : Int) < q.f1 := by
        rcases Int.lt_or_eq_of_le e5 with h | h
        · exact h
        · exact absurd (by rw [h]; simp [wrap64]) hl
      rw [List.length_drop] at hlt
      have hw : wrap64 (now - x.f0.f2) = now - q.f2 := by rw [hI.quo]; unfold wrap64; omega
      refine ⟨hI.quo, n0, n1, ⟨e, by rw [List.length_append]; omega, ?_, fun j hj => ?_⟩, fun j hj => ?_, fun j hj => ?_, fun i j hij hj => ?_, fun i m him hm2 hmw => ?_⟩
      · show withinL (x.f1 ++ [now]) (wrap64 (now - x.f0.f2)) = _
        rw [hw, withinL_snoc _ _ _ (by omega), List.drop_append_of_le_length e1]
        have : withinL x.f1 (wrap64 (now - x.f0.f2)) = L.drop e := e2
        rw [hw] at this
        rw [this]
      · rw [aL_append, if_pos (by omega)]; exact e3 j hj
      · rw [List.length_append, List.length_singleton] at hj
        rw [aL_append]
        by_cases h : j < L.length
        · rw [if_pos h]; exact hI.low j h
        · rw [if_neg h, if_pos (by omega)]; exact n0
      · rw [List.length_append, List.length_singleton] at hj
        rw [aL_append]
        by_cases h : j < L.length
        · rw [if_pos h]; have := hI.top j h; omega
        · rw [if_neg h, if_pos (by omega)]; exact Int.le_refl _
      · rw [List.length_append, List.length_singleton] at hj
        rw [aL_append, aL_append]
        by_cases h : j < L.length
        · rw [if_pos h, if_pos (by omega)]; exact hI.up i j hij h
        · rw [if_neg h, if_pos (show j = L.length by omega)]
          by_cases h2 : i < L.length
          · rw [if_pos h2]; have := hI.top i h2; omega
          · rw [if_neg h2, if_pos (by omega)]; exact Int.le_refl _
      · rw [List.length_append, List.length_singleton] at hm2
        rw [aL_append, aL_append] at hmw
        by_cases h : m < L.length
        · rw [if_pos h, if_pos (by omega)] at hmw
          exact hI.few i m him h hmw
        · have hmn : m = L.length := by omega
          rw [if_neg h, if_pos hmn] at hmw
          by_cases h2 : i < L.length
          · rw [if_pos h2] at hmw
            have : ¬ i < e := fun hie => by have := e3 i hie; omega
            omega
          · omega
  · rw [if_neg hm] at he0; exact absurd he0 (by decide)
theorem Inv.stay {q : S23} {x : S46} {t : Int} {L : List Int} (hI : Inv q x t L) (now : Int) (he0 : takeE x t now ≠ 0) : Inv q (takeX x t now) (takeT x t now) L := by
  rw [takeX, takeT, if_neg he0, if_neg he0]; exact hI
end Go.Proofs.YtchfkkpghipeiaaDoor.Q
end

section
namespace Go.Proofs.YtchfkkpghipeiaaDoor.Q
open Go.RowKit Go.Shelf Go.Proofs.YtchfkkpghipeiaaDoorW.PrintWords Go.Proofs.YtchfkkpghipeiaaDoorW.PrintLast Go.Proofs.YtchfkkpghipeiaaDoorW.PrintMore
set_option linter.unusedVariables false

theorem Inv.left {q : S23} {x : S46} {t : Int} {L : List Int} (hr : rightB q = true) (hI : Inv q x t L) (hlen : L.length < 1000000) (now : Int) (hm : mayG t now = true) :
    ∃ e, e ≤ L.length ∧ inW x now = L.drop e ∧ (∀ j, j < e → aL L j ≤ now - q.f2) ∧ (e < L.length → now - q.f2 < aL L e) ∧ ((L.length - e : Nat) : Int) ≤ q.f1 ∧ leftG [x] t q.f0 now = q.f1 - ((L.length - e : Nat) : Int) := by
  obtain ⟨r1, r2, r3, r4⟩ := right_of hr
  obtain ⟨e, e1, e2, e3, e4, e5⟩ := hI.within hr now hm
  rw [List.length_drop] at e5
  refine ⟨e, e1, e2, e3, e4, e5, ?_⟩
  have h := leftG_one x t now hm
  rw [hI.quo, e2, List.length_drop] at h
  rw [h]
  unfold wrap64
  omega
theorem take_ok {x : S46} {t n : Int} (hm : mayG t n = true) (hl : leftG [x] t x.f0.f0 n ≠ 0) : takeE x t n = 0 := by
  unfold takeE
  rw [if_pos hm, if_neg hl]

theorem next_cases {q : S23} {x : S46} {t : Int} {L : List Int} (hr : rightB q = true) (hI : Inv q x t L) (hlen : L.length < 1000000) (now : Int) :
    (1099511627776 < nextG x t now ∧ (now < 0 ∨ 1099511627776 < now ∨ leftG [x] t q.f0 now = 0)) ∨
    (0 ≤ now ∧ now ≤ nextG x t now ∧ nextG x t now ≤ 1099511627776 ∧ (∀ k, now ≤ k → k < nextG x t now → leftG [x] t q.f0 k = 0) ∧ 0 < leftG [x] t q.f0 (nextG x t now) ∧ takeE x t (nextG x t now) = 0) := by
  obtain ⟨r1, r2, r3, r4⟩ := right_of hr
  by_cases hm : mayG t now = true
  · obtain ⟨n0, n1, n2⟩ := may_of hm
    obtain ⟨e, e1, e2, e3, e4, e5, e6⟩ := hI.left hr hlen now hm
    have hq := hI.quo
    by_cases hl : 0 < leftG [x] t q.f0 now
    · have hn : nextG x t now = now := by
        unfold nextG
        rw [if_pos hm, hq, if_pos hl]
      rw [hn]
      exact .inr ⟨n0, Int.le_refl _, n1, fun k h1 h2 => by omega, hl, take_ok hm (by rw [hq]; omega)⟩
    · have hfull : ((L.length - e : Nat) : Int) = q.f1 := by omega
      have hz : leftG [x] t q.f0 now = 0 := by omega
      by_cases hmo : q.f1 = 0
      · have hn : nextG x t now = 1099511627777 := by
          unfold nextG
          rw [if_pos hm, hq, if_neg hl, if_pos hmo]
        rw [hn]
        exact .inl ⟨by decide, .inr (.inr hz)⟩
      · have hel : e < L.length := by omega
        have ha := e4 hel
        have hrd : rd (inW x now) (wrap64 (((inW x now).length : Int) - q.f1)) = aL L e := by
          rw [e2, List.length_drop, hfull]
          have : wrap64 (q.f1 - q.f1) = 0 := by simp [wrap64]
          rw [this]
          unfold rd aL
          rw [List.getD_eq_getElem?_getD, List.getD_eq_getElem?_getD]
          simp
        have ha1 := hI.low e hel
        have ha2 := hI.top e hel
        have ha3 := hI.t1
        have hw : wrap64 (aL L e + q.f2) = aL L e + q.f2 := by unfold wrap64; omega
        have hn : nextG x t now = mn (aL L e + q.f2) 1099511627777 := by
          unfold nextG
          rw [if_pos hm, hq, if_neg hl, if_neg hmo, hrd, hw]
        rw [hn]
        unfold mn
        by_cases hb : (1099511627777 : Int) < aL L e + q.f2
        · rw [if_pos hb]
          exact .inl ⟨by decide, .inr (.inr hz)⟩
        · rw [if_neg hb]
          by_cases hb2 : 1099511627776 < aL L e + q.f2
          · exact .inl ⟨hb2, .inr (.inr hz)⟩
          · refine .inr ⟨n0, by omega, by omega, fun k k1 k2 => ?_, ?_⟩
            · have hmk : mayG t k = true := by
                unfold mayG
                simp only [Bool.and_eq_true, decide_eq_true_eq]
                exact ⟨⟨by omega, by omega⟩, by omega⟩
              obtain ⟨f, f1, f2, f3, f4, f5, f6⟩ := hI.left hr hlen k hmk
              have hfe : f = e := by
                have h1 : ¬ e < f := fun h => by have := f3 e h; omega
                have h2 : ¬ f < e := fun h => by have := e3 f h; have := f4 (by omega); omega
                omega
              rw [f6, hfe]
              omega
            · have hmk : mayG t (aL L e + q.f2) = true := by
                unfold mayG
                simp only [Bool.and_eq_true, decide_eq_true_eq]
                exact ⟨⟨by omega, by omega⟩, by omega⟩
              obtain ⟨f, f1, f2, f3, f4, f5, f6⟩ := hI.left hr hlen (aL L e + q.f2) hmk
              have hfe : e < f := by
                by_cases h : e < f
                · exact h
                · exfalso
                  have := f4 (by omega)
                  have := hI.up f e (by omega) hel
                  omega
              have hpos : 0 < leftG [x] t q.f0 (aL L e + q.f2) := by rw [f6]; omega
              exact ⟨hpos, take_ok hmk (by rw [hq]; omega)⟩
  · have hn : nextG x t now = 1099511627777 := by
      unfold nextG
      rw [if_neg hm]
    rw [hn]
    refine .inl ⟨by decide, ?_⟩
    by_cases h1 : now < 0
    · exact .inl h1
    · by_cases h2 : 1099511627776 < now
      · exact .inr (.inl h2)
      · refine .inr (.inr ?_)
        unfold leftG
        rw [if_neg hm]
end Go.Proofs.YtchfkkpghipeiaaDoor.Q
end

section
namespace Go.Proofs.YtchfkkpghipeiaaDoor.Q
open Go.RowKit Go.Shelf Go.Proofs.YtchfkkpghipeiaaDoorW.PrintWords Go.Proofs.YtchfkkpghipeiaaDoorW.PrintLast Go.Proofs.YtchfkkpghipeiaaDoorW.PrintMore
set_option linter.unusedVariables false
set_option linter.unusedSimpArgs false

def numB (n : Int) : List Int := nbs (clampN n) 8
theorem numB_len (n : Int) : (numB n).length = 8 := by simp [numB, nbs]
def ticksB (ts : List Int) : List Int := ts.flatMap numB
def rowB (x : S46) : List Int := numB x.f1.length ++ ticksB x.f1
def rowsB (l : List S46) : List Int := l.flatMap rowB
def putB (l : List S46) (t : Int) : List Int := numB l.length ++ rowsB l ++ numB t
theorem ticksB_len (ts : List Int) : (ticksB ts).length = 8 * ts.length := by
  induction ts with
  | nil => rfl
  | cons a ts ih => rw [ticksB, List.flatMap_cons, List.length_append, numB_len, List.length_cons]; have : (ts.flatMap numB).length = 8 * ts.length := ih; omega
theorem ticksB_take (ts : List Int) (j : Nat) (h : j < ts.length) : ticksB (ts.take (j + 1)) = ticksB (ts.take j) ++ numB ts[j] := by
  rw [List.take_succ_eq_append_getElem h, ticksB, List.flatMap_append]
  simp [ticksB]
theorem rowsB_take (l : List S46) (j : Nat) (h : j < l.length) : rowsB (l.take (j + 1)) = rowsB (l.take j) ++ rowB l[j] := by
  rw [List.take_succ_eq_append_getElem h, rowsB, List.flatMap_append]
  simp [rowsB]
theorem rowsB_len (l : List S46) (h : ∀ x ∈ l, x.f1.length ≤ 1000) : (rowsB l).length ≤ 8008 * l.length := by
  induction l with
  | nil => simp [rowsB]
  | cons a l ih =>
    have h1 := ih (fun x hx => h x (List.mem_cons_of_mem _ hx))
    have h2 := h a (List.mem_cons_self ..)
    have h3 : (rowB a).length = 8 + 8 * a.f1.length := by rw [rowB, List.length_append, numB_len, ticksB_len]
    rw [rowsB, List.flatMap_cons, List.length_append, List.length_cons]
    have : (l.flatMap rowB).length ≤ 8008 * l.length := h1
    omega

set_option maxRecDepth 100000 in
set_option maxHeartbeats 4000000 in
theorem quota_Put.calls (g : Nat) (l : List S46) (t : Int) (w : World) (hG : RdG w g l t) (hl : l.length ≤ 64) (hts : ∀ x ∈ l, x.f1.length ≤ 1000) (hti : ∀ x ∈ l, ∀ y ∈ x.f1, -9223372036854775808 ≤ y ∧ y ≤ 9223372036854775807) (ht : -9223372036854775808 ≤ t ∧ t ≤ 9223372036854775807) :
    Calls Tryd.prog 12 #[.pointer (some ⟨g, 0, none⟩)] w fun e w' => ∃ v, e = .returned v ∧ Kd.R (Kd.int .u8) 5 w' w.heap.size (fun _ => True) v (putB l t) ∧ Below w.heap.size w w' := by
  obtain ⟨A, c, hgb, hC, hc⟩ := hG
  have HGB := Aside0.mk hgb
  have HR := Aside0.mk hC
  have HL := Aside0.mk hl
  have HTS := Aside0.mk hts
  have HTI := Aside0.mk hti
  have HT := Aside0.mk ht
  clear hgb hC hc hl hts hti ht
  go_enter Tryd.func12, Tryd.ntmps12
  go_upto_region 2 with (fail)
  have hw1 := blk_new w (.cells #[.slice none 0 0] 54)
  have hb1 : Below w.heap.size w (w.alloc (.cells #[.slice none 0 0] 54)) := below_alloc (Below.refl _ _) _
  have HI1 := Aside0.mk (show IsW w (w.alloc (.cells #[.slice none 0 0] 54)) w.heap.size (.slice none 0 0) [] from ⟨hw1, Nat.le_refl _, Kd.R_nil _ _ _ _ _⟩)
  generalize w.alloc (.cells #[.slice none 0 0] 54) = W1 at *
  obtain ⟨gw, hgw⟩ : ∃ gw, w.heap.size = gw := ⟨_, rfl⟩
  rw [hgw] at HI1 ⊢
  have HB1 := Aside0.mk hb1
  clear hw1 hb1
  have y0 : W1.cell? ⟨g, 0, none⟩ = some (.slice A l.length c) := (HB1.out.cell (p := ⟨g, 0, none⟩) (blk_lt HGB.out)).trans ((blk_cell HGB.out 0).trans rfl)
  go_upto_region 3 with (go_at_call 18; refine (writer_Num.calls gw (.slice none 0 0) [] (l.length : Int) w _ HI1.out HB1.out (by have := HL.out; omega) (by simp)).mono ?_; rintro e w2 ⟨v2, rfl, hI, hb, hk, _⟩; have HI2 := Aside0.mk hI; have HB2 := Aside0.mk hb; replace y0 := (HB2.out.cell (p := ⟨g, 0, none⟩) (blk_lt HGB.out)).trans ((blk_cell HGB.out 0).trans rfl); clear hI hb hk)
  clear HI1 HB1
  go_wp2
  go_loopw [22] (fun v22 W => ∃ (j : Nat) (v : Value), j ≤ l.length ∧ v22 = .int .i64 (j : Int) ∧ Aside0 (IsW w W gw v (numB l.length ++ rowsB (l.take j))) ∧ Aside0 (Below w.heap.size w W)) (fun v22 _ => l.length - (intOf v22).toNat)
  case atStart => exact ⟨0, v2, Nat.zero_le _, rfl, ⟨by have h := HI2.out; rw [List.nil_append] at h; rw [List.take_zero, show rowsB [] = [] from rfl, List.append_nil]; exact h⟩, HB2⟩
  case round =>
    clear HI2 HB2 y0
    obtain ⟨j, v, hj, rfl, HI, HB⟩ := hrel
    by_cases hlt : j < l.length
    · obtain ⟨ad, A3, c3, e, x0, x1, x2, x3, hc3, hr3⟩ := at_T46 HR.out (j : Int) (by omega) (by omega)
      cases e
      have HX := Aside0.mk (show rd_T46 l (j : Int) = l[j] by
        unfold rd_T46
        rw [Int.toNat_natCast, List.getD_eq_getElem?_getD, List.getElem?_eq_getElem hlt]
        rfl)
      rw [HX.out] at x0 x1 x2 x3 hc3 hr3
      have HTK := Aside0.mk (rowsB_take l j hlt)
      have HXT := Aside0.mk (HTS.out _ (List.getElem_mem hlt))
      have HXI := Aside0.mk (HTI.out _ (List.getElem_mem hlt))
      have HLN := Aside0.mk (show (numB l.length ++ rowsB (l.take j)).length ≤ 8 + 8008 * 64 by
        rw [List.length_append, numB_len]
        have h1 := rowsB_len (l.take j) (fun x hx => HTS.out x (List.mem_of_mem_take hx))
        have h2 : (l.take j).length ≤ 64 := by rw [List.length_take]; have := HL.out; omega
        omega)
      have HR3 := Aside0.mk hr3
      replace x0 := (HB.out.cell (World.block_lt_of_cell? w _ x0)).trans x0
      replace x1 := (HB.out.cell (World.block_lt_of_cell? w _ x1)).trans x1
      replace x2 := (HB.out.cell (World.block_lt_of_cell? w _ x2)).trans x2
      replace x3 := (HB.out.cell (World.block_lt_of_cell? w _ x3)).trans x3
      clear HX hr3 hc3
      generalize l[j] = x at *
      obtain ⟨P, hP⟩ : ∃ P, numB l.length ++ rowsB (l.take j) = P := ⟨_, rfl⟩
      have HP := Aside0.mk hP
      rw [hP] at HI HLN
      clear hP
      obtain ⟨i, hi⟩ : ∃ i : Int, (j : Int) = i := ⟨_, rfl⟩
      have HII := Aside0.mk hi
      have hp1 : (0 ≤ i) = True := eq_true (by omega)
      have hq1 : (i < (l.length : Int)) = True := eq_true (by omega)
      have hd1 : decide (i < (l.length : Int)) = true := decide_eq_true (by omega)
      have HK := Aside0.mk (show wrap64 (i + 1) = ((j + 1 : Nat) : Int) by unfold wrap64; have := HL.out; omega)
      rw [hi] at x0 x1 x2 x3 ⊢
      clear hi
      go_upto_region 6 with (fail)
      have hz := blk_new wr (.cells #[.string x.f0.f0, .int .i64 x.f0.f1, .int .i64 x.f0.f2, .slice A3 x.f1.length c3] 46)
      have hb8 : Below wr.heap.size wr (wr.alloc (.cells #[.string x.f0.f0, .int .i64 x.f0.f1, .int .i64 x.f0.f2, .slice A3 x.f1.length c3] 46)) := below_alloc (Below.refl _ _) _
      clear x0 x1 x2 x3
      generalize wr.alloc (.cells #[.string x.f0.f0, .int .i64 x.f0.f1, .int .i64 x.f0.f2, .slice A3 x.f1.length c3] 46) = W8 at *
      have HI8 := Aside0.mk (show IsW w W8 gw v P from ⟨blk_below HI.out.1 hb8, HI.out.2.1, Kd.R_below HI.out.2.2 hb8⟩)
      have HB8 := Aside0.mk (below_step HB.out hb8)
      obtain ⟨z, hzz⟩ : ∃ z, wr.heap.size = z := ⟨_, rfl⟩
      rw [hzz] at hz ⊢
      have HZ := Aside0.mk hz
      have z3 : W8.cell? ⟨z, 3, none⟩ = some (.slice A3 x.f1.length c3) := (blk_cell hz 3).trans rfl
      clear hz hb8 hzz HI HB
      go_upto_region 7 with (go_at_call 18; refine (writer_Num.calls gw v P (x.f1.length : Int) w _ HI8.out HB8.out (by have := HXT.out; omega) (by have := HLN.out; omega)).mono ?_; rintro e w9 ⟨v9, rfl, hI, hb, hk, _⟩; have HI9 := Aside0.mk hI; have HB9 := Aside0.mk hb; replace z3 := (blk_cell ((hk.2 z (blk_lt HZ.out) (blk_ne HZ.out HI8.out.1 (by decide)) (Kd.R_ne HI8.out.2.2 HZ.out (by decide))).trans HZ.out) 3).trans rfl; clear hI hb hk)
      go_wp2
      go_loopw [34] (fun v34 W => ∃ (k : Nat) (v : Value), k ≤ x.f1.length ∧ v34 = .int .i64 (k : Int) ∧ Aside0 (IsW w W gw v (P ++ numB x.f1.length ++ ticksB (x.f1.take k))) ∧ Aside0 (Below w.heap.size w W)) (fun v34 _ => x.f1.length - (intOf v34).toNat)
      case atStart => exact ⟨0, v9, Nat.zero_le _, rfl, ⟨by rw [List.take_zero, show ticksB [] = [] from rfl, List.append_nil]; exact HI9.out⟩, HB9⟩
      case round =>
        clear HI9 HB9 z3 HI8 HB8 HZ
        obtain ⟨k, v, hk, rfl, HI, HB⟩ := hrel
        by_cases hlt2 : k < x.f1.length
        · obtain ⟨kk, hkk⟩ : ∃ kk : Int, (k : Int) = kk := ⟨_, rfl⟩
          have HKK := Aside0.mk hkk
          have HRW := Aside0.mk (Kd.C_below HR3.out HB.out)
          obtain ⟨ad2, e, hx⟩ := Kd.at_int HRW.out kk (by omega) (by omega)
          cases e
          have hp2 : (0 ≤ kk) = True := eq_true (by omega)
          have hq2 : (kk < (x.f1.length : Int)) = True := eq_true (by omega)
          have hd2 : decide (kk < (x.f1.length : Int)) = true := decide_eq_true (by omega)
          have HK2 := Aside0.mk (show wrap64 (kk + 1) = ((k + 1 : Nat) : Int) by unfold wrap64; have := HXT.out; omega)
          have hrd : rd x.f1 kk = x.f1[k] := by
            subst hkk
            unfold rd
            rw [Int.toNat_natCast, List.getD_eq_getElem?_getD, List.getElem?_eq_getElem hlt2]
            rfl
          have HTK2 := Aside0.mk (ticksB_take x.f1 k hlt2)
          have HRG := Aside0.mk (HXI.out _ (List.getElem_mem hlt2))
          rw [← hrd] at HTK2 HRG
          have HLN2 := Aside0.mk (show (P ++ numB x.f1.length ++ ticksB (x.f1.take k)).length < 100000000 by
            rw [List.length_append, List.length_append, numB_len, ticksB_len, List.length_take]
            have := HLN.out
            have := HXT.out
            omega)
          rw [hkk]
          clear hkk hrd
          go_wp2_with (go_at_call 18; refine (writer_Num.calls gw v _ (rd x.f1 kk) w _ HI.out HB.out HRG.out HLN2.out).mono ?_; rintro e w9 ⟨v9, rfl, hI, hb, hk, _⟩; have HI9 := Aside0.mk hI; have HB9 := Aside0.mk hb; clear hI hb hk)
          go_roundw
          case rel => exact ⟨k + 1, v9, by omega, by rw [HK2.out], ⟨by rw [HTK2.out, ← List.append_assoc]; exact HI9.out⟩, HB9⟩
          case measure => have := HKK.out; simp [intOf, HK2.out]; omega
        · have hkl : k = x.f1.length := by omega
          subst hkl
          have hd2 : decide ((x.f1.length : Int) < (x.f1.length : Int)) = false := decide_eq_false (by omega)
          have HI' := Aside0.mk HI.out
          rw [List.take_length] at HI'
          go_wp2
          go_roundw
          case rel => exact ⟨j + 1, v, by omega, by rw [HK.out], ⟨by rw [HTK.out, ← List.append_assoc, HP.out]; have h := HI'.out; rw [List.append_assoc] at h; exact h⟩, HB⟩
          case measure => have := HII.out; simp [intOf, HK.out]; omega
    · have hjl : j = l.length := by omega
      subst hjl
      have hd1 : decide ((l.length : Int) < (l.length : Int)) = false := decide_eq_false (by omega)
      have HI' := Aside0.mk HI.out
      rw [List.take_length] at HI'
      have y1 : wr.cell? ⟨g, 1, none⟩ = some (.int .i64 t) := (HB.out.cell (p := ⟨g, 1, none⟩) (blk_lt HGB.out)).trans ((blk_cell HGB.out 1).trans rfl)
      have HLN := Aside0.mk (show (numB l.length ++ rowsB l).length ≤ 8 + 8008 * 64 by
        rw [List.length_append, numB_len]
        have h1 := rowsB_len l HTS.out
        have h2 := HL.out
        omega)
      clear HI
      go_wp2_with (first | (go_at_call 18; refine (writer_Num.calls gw v _ t w _ HI'.out HB.out HT.out (by have := HLN.out; omega)).mono ?_; rintro e w9 ⟨v9, rfl, hI, hb, hk, _⟩; have HI9 := Aside0.mk hI; have HB9 := Aside0.mk hb; clear hI hb hk) | (go_at_call 19; refine (writer_Bytes.calls gw v9 _ w _ HI9.out (by rw [List.length_append]; have := HLN.out; have := numB_len t; unfold numB at this; omega)).mono ?_; rintro e w10 ⟨v10, rfl, hR, _, hb⟩; have HR10 := Aside0.mk hR; have HB10 := Aside0.mk (below_step HB9.out hb); have HSZ := Aside0.mk HB9.out.size; clear hR hb))
      go_ret
      exact ⟨v10, rfl, Kd.R_lower HR10.out HSZ.out, HB10.out⟩
end Go.Proofs.YtchfkkpghipeiaaDoor.Q
end

section
namespace Go.Proofs.YtchfkkpghipeiaaDoor.Q
open Go.RowKit Go.Shelf Go.Proofs.YtchfkkpghipeiaaDoorW.PrintWords Go.Proofs.YtchfkkpghipeiaaDoorW.PrintLast Go.Proofs.YtchfkkpghipeiaaDoorW.PrintMore
set_option linter.unusedVariables false
set_option linter.unusedSimpArgs false

set_option maxHeartbeats 1000000 in
set_option maxRecDepth 100000 in
theorem clone_row.calls (A0 : Option Addr) (c0 : Nat) (qs : List S23) (w : World) (hr0 : (Kd.raw 4).C w A0 (qs.map rowq).length (qs.map rowq)) (hl : qs.length < 1000000) :
    Calls Tryd.prog 21 #[.slice A0 (qs.map rowq).length c0] w fun e w' => ∃ v0_ : Value, e = .returned (v0_) ∧ (Kd.raw 4).R 46 w' w.heap.size (fun _ => True) v0_ (qs.map rowq) ∧ Below w.heap.size w w' := by
    have hHR := Aside0.mk hr0
    have hHL := Aside0.mk (show (qs.map rowq).length < 1000000 by rw [List.length_map]; exact hl)
    clear hl
    obtain ⟨l0, hl0⟩ : ∃ l0, qs.map rowq = l0 := ⟨_, rfl⟩
    rw [hl0] at hr0 hHR hHL ⊢
    clear hl0
    cases A0 with
    | none =>
      have h0 : l0 = [] := by
        by_cases hn : 0 < l0.length
        · obtain ⟨ad, e, _⟩ := hr0.2.2 hn
          cases e
        · exact List.length_eq_zero_iff.1 (by omega)
      subst h0
      clear hr0 hHR hHL
      have he := fun W => Lib.run_eql_slice_nil (P := Tryd.prog) W 40 46 none 0 c0 0 0 Tryd.underlying40
      go_enter Tryd.func21, Tryd.ntmps21
      go_wp2
      go_ret
      exact ⟨_, rfl, Kd.R_nil _ _ _ _ _, Below.refl _ _⟩
    | some ad =>
      clear hr0
      have HB := Aside0.mk (Below.refl w.heap.size w)
      have he := fun W => Lib.run_eql_slice_nil (P := Tryd.prog) W 40 46 (some ad) l0.length c0 0 0 Tryd.underlying40
      go_enter Tryd.func21, Tryd.ntmps21
      go_wp2_with (first | ((with_reducible refine gate_dst (N := 5) rfl ?_); refine Kd.R_lit (Kd.raw 4) w.heap.size 46 ?hg (N := 5) ?hd (xs := ([] : List (List Value))) (inner := []) (ok := fun _ => True) (okp := fun _ => True) ?hr ?hp (fun _ hk => hk) trivial (Below.refl _ _) (Nat.le_refl _) (by simp) ?_; (case hd => rfl); (case hg => rfl); (case hr => first | (go_simp; done) | (go_simp; rfl)); (case hp => exact (Reps.none _ _)); intro v1 w1 ho hb hg_ hnew_; clear hg_ hnew_; have HO := Aside0.mk ho; have HB1 := Aside0.mk hb; clear ho hb) | ((with_reducible refine gate_builtin (b := .append) (xs := #[.tmp 5, .tmp 6]) rfl ?_); at_builtin; refine Kd.R_append_rows (Kd.raw 4) (w0 := w) w.heap.size rfl (.tmp 5) (.tmp 6) 40 46 (.agg #[.string ⟨#[]⟩, .int .i64 0, .int .i64 0, .slice none 0 0]) 56 rfl Tryd.underlying40 info46 rfl (by decide) (by omega) v1 [] l0 _ _ _ (fun _ => True) (fun _ => False) rfl rfl HO.out (Kd.C_below hHR.out HB1.out) (fun x cs h => h) (fun _ h => h.elim) (fun _ _ => trivial) HB1.out HB1.out.size ?aL ?_; (case aL => have := hHL.out; simp; omega); intro v2 w2 ho hb hg hat; have HO2 := Aside0.mk ho; have HB2 := Aside0.mk hb; clear ho hb hg hat))
      go_ret
      exact ⟨_, rfl, HO2.out, HB2.out⟩

theorem less_f (a b : Int) : cmp_Less_int.f a b = some (decide (a < b)) := by
  unfold cmp_Less_int.f cmp_isNaN_int.f
  simp
theorem sorted_l0 (l : List Int) (hl : l.length < 1000000) : ∀ (k j : Nat), j < k → (0 < j → j < l.length) → ∃ b, slices_IsSorted_int_int.l0 k l (j : Int) = some b := by
  intro k
  induction k with
  | zero => intro j h; omega
  | succ k ih =>
    intro j h hj
    unfold slices_IsSorted_int_int.l0
    by_cases hp : 0 < j
    · have e : wrap64 ((j : Int) - 1) = ((j - 1 : Nat) : Int) := by unfold wrap64; omega
      have := hj hp
      rw [if_pos (by omega), if_pos (by omega), if_pos (by omega), e, if_pos (by omega), if_pos (by omega), less_f, Option.bind_some]
      split
      · exact ⟨_, rfl⟩
      · exact ih (j - 1) (by omega) (by omega)
    · rw [if_neg (by omega)]
      exact ⟨_, rfl⟩
theorem sorted_f (l : List Int) (hl : l.length < 1000000) : ∃ b, slices_IsSorted_int_int.f (l.length + 2) l = some b := by
  unfold slices_IsSorted_int_int.f
  by_cases hp : 0 < l.length
  · have e : wrap64 ((l.length : Int) - 1) = ((l.length - 1 : Nat) : Int) := by unfold wrap64; omega
    rw [e]
    exact sorted_l0 l hl _ _ (by omega) (by omega)
  · have h0 : l.length = 0 := by omega
    rw [h0]
    exact ⟨true, by unfold slices_IsSorted_int_int.l0; rw [if_neg (by unfold wrap64; decide)]⟩

set_option maxRecDepth 100000 in
set_option maxHeartbeats 4000000 in
theorem row_fits.calls (q : S23) (v : Value) (A0 : Option Addr) (n0 c0 : Nat) (hv : v = .slice A0 n0 c0) (l : List Int) (A : Option Addr) (c : Nat) (last : Int) (w : World) (hC : Kd.C (Kd.int .i64) w A l.length l) (hc : l.length ≤ c) (hl : l.length < 1000000) :
    Calls Tryd.prog 27 #[.agg #[.string q.f0, .int .i64 q.f1, .int .i64 q.f2, v], .slice A l.length c, .int .i64 last] w fun e w' => ∃ b, e = .returned (.bool b) ∧ Below w.heap.size w w' := by
  subst hv
  have HR := Aside0.mk hC
  have HC := Aside0.mk hc
  have HL := Aside0.mk hl
  clear hC hc hl
  obtain ⟨sb, hsb⟩ := sorted_f l HL.out
  have HSB := Aside0.mk hsb
  clear hsb
  obtain ⟨lim, hlim⟩ : ∃ lim, wrap64 (last - q.f2) = lim := ⟨_, rfl⟩
  have HLIM := Aside0.mk hlim
  clear hlim
  go_enter Tryd.func27, Tryd.ntmps27
  go_upto_region 2 with (fail)
  have z1 := blk_new (w.alloc (.cells #[.string q.f0, .int .i64 q.f1, .int .i64 q.f2, .slice A0 n0 c0] 46)) (.cells #[.string q.f0, .int .i64 q.f1, .int .i64 q.f2, .slice A l.length c] 46)
  rw [World.size_alloc] at z1
  have z0 := blk_alloc (blk_new w (.cells #[.string q.f0, .int .i64 q.f1, .int .i64 q.f2, .slice A0 n0 c0] 46)) (.cells #[.string q.f0, .int .i64 q.f1, .int .i64 q.f2, .slice A l.length c] 46)
  have HB2 := Aside0.mk (((Below.refl w.heap.size w).alloc (Nat.le_refl _) (.cells #[.string q.f0, .int .i64 q.f1, .int .i64 q.f2, .slice A0 n0 c0] 46)).alloc (by simp) (.cells #[.string q.f0, .int .i64 q.f1, .int .i64 q.f2, .slice A l.length c] 46))
  generalize (w.alloc (.cells #[.string q.f0, .int .i64 q.f1, .int .i64 q.f2, .slice A0 n0 c0] 46)).alloc (.cells #[.string q.f0, .int .i64 q.f1, .int .i64 q.f2, .slice A l.length c] 46) = W2 at *
  obtain ⟨z, hz⟩ : ∃ z, w.heap.size = z := ⟨_, rfl⟩
  rw [hz] at z0 z1 ⊢
  clear hz
  have x1 : W2.cell? ⟨z, 1, none⟩ = some (.int .i64 q.f1) := (blk_cell z0 1).trans rfl
  have y0 : W2.cell? ⟨z + 1, 0, none⟩ = some (.string q.f0) := (blk_cell z1 0).trans rfl
  have y1 : W2.cell? ⟨z + 1, 1, none⟩ = some (.int .i64 q.f1) := (blk_cell z1 1).trans rfl
  have y2 : W2.cell? ⟨z + 1, 2, none⟩ = some (.int .i64 q.f2) := (blk_cell z1 2).trans rfl
  have y3 : W2.cell? ⟨z + 1, 3, none⟩ = some (.slice A l.length c) := (blk_cell z1 3).trans rfl
  have HR2 := Aside0.mk (Kd.C_below HR.out HB2.out)
  have Z1 := Aside0.mk z1
  clear z0 z1
  by_cases h1 : (l.length : Int) ≤ q.f1
  · have hd1 : decide ((l.length : Int) ≤ q.f1) = true := decide_eq_true h1
    clear h1
    cases sb with
    | false =>
      go_wp2_with (first | (go_at_call 35; with_reducible refine (slices_IsSorted_int_int.calls (l.length + 2) A c l false _ HR2.out HC.out HSB.out).mono ?_; rintro e w3 ⟨rfl, hd⟩; have HB3 := Aside0.mk (below_step HB2.out hd.below); skip; clear hd))
      go_ret
      exact ⟨_, rfl, HB3.out⟩
    | true =>
      by_cases h2 : ((withinL l lim).length : Int) = (l.length : Int)
      · have hd2 : (((withinL l lim).length : Int) == (l.length : Int)) = true := beq_iff_eq.mpr h2
        clear h2
        by_cases h0 : l.length = 0
        · have hd3 : ((l.length : Int) == 0) = true := beq_iff_eq.mpr (by omega)
          clear h0
          go_wp2_with (first | (go_at_call 35; with_reducible refine (slices_IsSorted_int_int.calls (l.length + 2) A c l true _ HR2.out HC.out HSB.out).mono ?_; rintro e w3 ⟨rfl, hd⟩; have HB3 := Aside0.mk (below_step HB2.out hd.below); replace y0 := (hd.below.cell (World.block_lt_of_cell? W2 _ y0)).trans y0; replace y1 := (hd.below.cell (World.block_lt_of_cell? W2 _ y1)).trans y1; replace y2 := (hd.below.cell (World.block_lt_of_cell? W2 _ y2)).trans y2; replace y3 := (hd.below.cell (World.block_lt_of_cell? W2 _ y3)).trans y3; clear hd) | (go_at_call 17; with_reducible refine (row_within.calls q.f0 q.f1 q.f2 l A c last lim HLIM.out _ (Kd.C_below HR.out HB3.out) HC.out HL.out).mono ?_; rintro e w4 ⟨A', rfl, _, hb⟩; have HB4 := Aside0.mk (below_step HB3.out hb); clear hb))
          go_ret
          exact ⟨_, rfl, HB4.out⟩
        · have hd3 : ((l.length : Int) == 0) = false := beq_eq_false_iff_ne.mpr (by omega)
          obtain ⟨ad, e, xa⟩ := Kd.at_int HR2.out ((l.length : Int) - 1) (by omega) (by omega)
          obtain ⟨ad', e', xb⟩ := Kd.at_int HR2.out 0 (by omega) (by omega)
          cases e
          cases e'
          have hw : wrap64 ((l.length : Int) - 1) = (l.length : Int) - 1 := by have := HL.out; unfold wrap64; omega
          obtain ⟨k1, hk1⟩ : ∃ k1 : Int, (l.length : Int) - 1 = k1 := ⟨_, rfl⟩
          rw [hk1] at xa hw
          rw [show ad.add (Int.toNat 0) = ad from rfl] at xb
          have hp1 : (0 ≤ k1) = True := eq_true (by omega)
          have hq1 : (k1 < (l.length : Int)) = True := eq_true (by omega)
          have hp2 : ((0 : Int) < (l.length : Int)) = True := eq_true (by omega)
          have hp3 : (0 < l.length) = True := eq_true (by omega)
          clear h0
          by_cases h5 : rd l k1 ≤ last
          · have hd5 : decide (rd l k1 ≤ last) = true := decide_eq_true h5
            clear h5
            by_cases h6 : (0 : Int) ≤ rd l 0
            · have hd6 : decide ((0 : Int) ≤ rd l 0) = true := decide_eq_true h6
              clear h6
              go_wp2_with (first | (go_at_call 35; with_reducible refine (slices_IsSorted_int_int.calls (l.length + 2) (some ad) c l true _ HR2.out HC.out HSB.out).mono ?_; rintro e w3 ⟨rfl, hd⟩; have HB3 := Aside0.mk (below_step HB2.out hd.below); replace y0 := (hd.below.cell (World.block_lt_of_cell? W2 _ y0)).trans y0; replace y1 := (hd.below.cell (World.block_lt_of_cell? W2 _ y1)).trans y1; replace y2 := (hd.below.cell (World.block_lt_of_cell? W2 _ y2)).trans y2; replace y3 := (hd.below.cell (World.block_lt_of_cell? W2 _ y3)).trans y3; replace xa := (hd.below.cell (World.block_lt_of_cell? W2 _ xa)).trans xa; replace xb := (hd.below.cell (World.block_lt_of_cell? W2 _ xb)).trans xb; clear hd) | (go_at_call 17; with_reducible refine (row_within.calls q.f0 q.f1 q.f2 l (some ad) c last lim HLIM.out _ (Kd.C_below HR.out HB3.out) HC.out HL.out).mono ?_; rintro e w4 ⟨A', rfl, _, hb⟩; have HB4 := Aside0.mk (below_step HB3.out hb); replace xa := (hb.cell (World.block_lt_of_cell? w3 _ xa)).trans xa; replace xb := (hb.cell (World.block_lt_of_cell? w3 _ xb)).trans xb; clear hb))
              go_ret
              exact ⟨_, rfl, HB4.out⟩
            · have hd6 : decide ((0 : Int) ≤ rd l 0) = false := decide_eq_false h6
              clear h6
              go_wp2_with (first | (go_at_call 35; with_reducible refine (slices_IsSorted_int_int.calls (l.length + 2) (some ad) c l true _ HR2.out HC.out HSB.out).mono ?_; rintro e w3 ⟨rfl, hd⟩; have HB3 := Aside0.mk (below_step HB2.out hd.below); replace y0 := (hd.below.cell (World.block_lt_of_cell? W2 _ y0)).trans y0; replace y1 := (hd.below.cell (World.block_lt_of_cell? W2 _ y1)).trans y1; replace y2 := (hd.below.cell (World.block_lt_of_cell? W2 _ y2)).trans y2; replace y3 := (hd.below.cell (World.block_lt_of_cell? W2 _ y3)).trans y3; replace xa := (hd.below.cell (World.block_lt_of_cell? W2 _ xa)).trans xa; replace xb := (hd.below.cell (World.block_lt_of_cell? W2 _ xb)).trans xb; clear hd) | (go_at_call 17; with_reducible refine (row_within.calls q.f0 q.f1 q.f2 l (some ad) c last lim HLIM.out _ (Kd.C_below HR.out HB3.out) HC.out HL.out).mono ?_; rintro e w4 ⟨A', rfl, _, hb⟩; have HB4 := Aside0.mk (below_step HB3.out hb); replace xa := (hb.cell (World.block_lt_of_cell? w3 _ xa)).trans xa; replace xb := (hb.cell (World.block_lt_of_cell? w3 _ xb)).trans xb; clear hb))
              go_ret
              exact ⟨_, rfl, HB4.out⟩
          · have hd5 : decide (rd l k1 ≤ last) = false := decide_eq_false h5
            clear h5
            go_wp2_with (first | (go_at_call 35; with_reducible refine (slices_IsSorted_int_int.calls (l.length + 2) (some ad) c l true _ HR2.out HC.out HSB.out).mono ?_; rintro e w3 ⟨rfl, hd⟩; have HB3 := Aside0.mk (below_step HB2.out hd.below); replace y0 := (hd.below.cell (World.block_lt_of_cell? W2 _ y0)).trans y0; replace y1 := (hd.below.cell (World.block_lt_of_cell? W2 _ y1)).trans y1; replace y2 := (hd.below.cell (World.block_lt_of_cell? W2 _ y2)).trans y2; replace y3 := (hd.below.cell (World.block_lt_of_cell? W2 _ y3)).trans y3; replace xa := (hd.below.cell (World.block_lt_of_cell? W2 _ xa)).trans xa; replace xb := (hd.below.cell (World.block_lt_of_cell? W2 _ xb)).trans xb; clear hd) | (go_at_call 17; with_reducible refine (row_within.calls q.f0 q.f1 q.f2 l (some ad) c last lim HLIM.out _ (Kd.C_below HR.out HB3.out) HC.out HL.out).mono ?_; rintro e w4 ⟨A', rfl, _, hb⟩; have HB4 := Aside0.mk (below_step HB3.out hb); replace xa := (hb.cell (World.block_lt_of_cell? w3 _ xa)).trans xa; replace xb := (hb.cell (World.block_lt_of_cell? w3 _ xb)).trans xb; clear hb))
            go_ret
            exact ⟨_, rfl, HB4.out⟩
      · have hd2 : (((withinL l lim).length : Int) == (l.length : Int)) = false := beq_eq_false_iff_ne.mpr h2
        clear h2
        go_wp2_with (first | (go_at_call 35; with_reducible refine (slices_IsSorted_int_int.calls (l.length + 2) A c l true _ HR2.out HC.out HSB.out).mono ?_; rintro e w3 ⟨rfl, hd⟩; have HB3 := Aside0.mk (below_step HB2.out hd.below); replace y0 := (hd.below.cell (World.block_lt_of_cell? W2 _ y0)).trans y0; replace y1 := (hd.below.cell (World.block_lt_of_cell? W2 _ y1)).trans y1; replace y2 := (hd.below.cell (World.block_lt_of_cell? W2 _ y2)).trans y2; replace y3 := (hd.below.cell (World.block_lt_of_cell? W2 _ y3)).trans y3; clear hd) | (go_at_call 17; with_reducible refine (row_within.calls q.f0 q.f1 q.f2 l A c last lim HLIM.out _ (Kd.C_below HR.out HB3.out) HC.out HL.out).mono ?_; rintro e w4 ⟨A', rfl, _, hb⟩; have HB4 := Aside0.mk (below_step HB3.out hb); clear hb))
        go_ret
        exact ⟨_, rfl, HB4.out⟩
  · have hd1 : decide ((l.length : Int) ≤ q.f1) = false := decide_eq_false h1
    clear h1
    go_wp2_with (fail)
    go_ret
    exact ⟨_, rfl, HB2.out⟩
end Go.Proofs.YtchfkkpghipeiaaDoor.Q
end

section
namespace Go.Proofs.YtchfkkpghipeiaaDoor.Q
set_option linter.unusedVariables false
set_option linter.unusedSimpArgs false
open Go.RowKit Go.Proofs.YtchfkkpghipeiaaDoorW.PrintWords Go.Proofs.YtchfkkpghipeiaaDoorW.PrintLast Go.Proofs.YtchfkkpghipeiaaDoorW.PrintMore

structure Rd (b : List Int) (a fa fe : Int) : Prop where
  len : b.length ≤ 100000
  a0 : 0 ≤ a
  a1 : a ≤ (b.length : Int)
  e0 : fe = 0 → fa = 0
theorem Rd.ok {b : List Int} {a fa fe : Int} (h : Rd b a fa fe) : okR fa fe = decide (fe = 0) := by
  unfold okR
  by_cases he : fe = 0
  · rw [he, h.e0 he]; rfl
  · rw [decide_eq_false he]
    have : (fe == 0) = false := beq_eq_false_iff_ne.mpr he
    rw [this, Bool.and_false]
theorem u64_lo (v c : Int) : 0 ≤ Go.bits .or .u64 v c := by
  have h : ∀ x : Int, IntKind.u64.wrap x = x % 18446744073709551616 := fun x => by simp [IntKind.wrap, IntKind.bits, IntKind.signed]
  unfold Go.bits
  simp only [h]
  exact Int.emod_nonneg _ (by decide)
theorem vfold_lo (l : List Int) : 0 ≤ vfold l := by
  unfold vfold
  suffices h : ∀ (l : List Int) (v : Int), 0 ≤ v → 0 ≤ l.foldl vstep v from h l 0 (Int.le_refl _)
  intro l
  induction l with
  | nil => exact fun v h => h
  | cons c l ih => exact fun v h => ih _ (u64_lo _ _)
theorem num_step {b : List Int} {a fa fe : Int} (h : Rd b a fa fe) : ∃ r a' f' e', field_Reader_Num.f b a fa fe = some (r, a', f', e') ∧ Rd b a' f' e' ∧ (fe ≠ 0 → r = 0 ∧ f' = fa ∧ e' = fe) ∧ 0 ≤ r ∧ r ≤ 4611686018427387904 := by
  have hl := h.len; have h0 := h.a0; have h1 := h.a1
  unfold field_Reader_Num.f
  rw [h.ok]
  by_cases he : fe = 0
  · rw [if_pos (decide_eq_true he)]
    have e1 : wrap64 ((b.length : Int) - a) = (b.length : Int) - a := by unfold wrap64; omega
    rw [e1]
    by_cases hs : (b.length : Int) - a < 8
    · rw [if_pos hs]
      exact ⟨_, _, _, _, rfl, ⟨hl, h0, h1, fun h => by omega⟩, fun hn => absurd he hn, by omega, by omega⟩
    · rw [if_neg hs, if_pos ⟨h0, by omega⟩]
      have hv := vfold_lo ((b.take (a + 8).toNat).drop a.toNat)
      generalize vfold ((b.take (a + 8).toNat).drop a.toNat) = v at *
      by_cases hv2 : v > 4611686018427387904
      · rw [if_pos hv2]
        exact ⟨_, _, _, _, rfl, ⟨hl, h0, h1, fun h => by omega⟩, fun hn => absurd he hn, by omega, by omega⟩
      · rw [if_neg hv2]
        have e2 : wrap64 v = v := by unfold wrap64; omega
        rw [e2]
        exact ⟨_, _, _, _, rfl, ⟨hl, by omega, by omega, h.e0⟩, fun hn => absurd he hn, hv, by omega⟩
  · rw [if_neg (by rw [decide_eq_false he]; decide)]
    exact ⟨_, _, _, _, rfl, h, fun _ => ⟨rfl, rfl, rfl⟩, by omega, by omega⟩
theorem fail_ok {b : List Int} {a fa fe : Int} (h : okR fa fe = true) (x e : Int) : field_Reader_fail.f b a fa fe x e = some (x, x, e) := failR_f b a fa fe x e h
theorem end_step {b : List Int} {a fa fe : Int} (h : Rd b a fa fe) (k : Nat) : ∃ r a' f' e', field_Reader_End.f (k + 1) b a fa fe = some (r, a', f', e') ∧ Rd b a' f' e' ∧ (fe ≠ 0 → r = false ∧ f' = fa ∧ e' = fe) := by
  unfold field_Reader_End.f
  rw [okR_f, Option.bind_some]
  dsimp only
  have hk := h.ok
  by_cases he : fe = 0
  · rw [decide_eq_true he] at hk
    rw [if_pos hk, leftR_f, Option.bind_some]
    dsimp only
    rw [field_Reader_End.j0]
    split
    · rw [fail_ok hk, Option.bind_some, okR_f, Option.bind_some]
      exact ⟨_, _, _, _, rfl, ⟨h.len, h.a0, h.a1, fun h => by simp at h⟩, fun hn => absurd he hn⟩
    · rw [okR_f, Option.bind_some]
      exact ⟨_, _, _, _, rfl, h, fun hn => absurd he hn⟩
  · rw [decide_eq_false he] at hk
    rw [if_neg (by rw [hk]; decide), field_Reader_End.j0, if_neg (by decide), okR_f, Option.bind_some]
    exact ⟨_, _, _, _, rfl, h, fun _ => ⟨hk, rfl, rfl⟩⟩
theorem count_step {b : List Int} {a fa fe : Int} (h : Rd b a fa fe) (m least : Int) : ∃ r a' f' e', field_Reader_Count.f b a fa fe m least = some (r, a', f', e') ∧ Rd b a' f' e' ∧ (fe ≠ 0 → r = 0 ∧ f' = fa ∧ e' = fe) := by
  obtain ⟨n, a1, f1, e1, hn, hr, hz, n0, n1⟩ := num_step h
  unfold field_Reader_Count.f
  rw [hn, Option.bind_some]
  dsimp only
  rw [okR_f, Option.bind_some]
  dsimp only
  have hl := hr.len; have h0 := hr.a0; have h1 := hr.a1
  have hk := hr.ok
  by_cases he : e1 = 0
  · rw [decide_eq_true he] at hk
    have hfe : fe = 0 := by
      by_cases hf : fe = 0
      · exact hf
      · have := (hz hf).2.2; omega
    rw [if_pos hk]
    by_cases hm : n > m
    · rw [if_pos hm, fail_ok hk, Option.bind_some]
      exact ⟨_, _, _, _, rfl, ⟨h.len, h.a0, h.a1, fun h => by simp at h⟩, fun hn => absurd hfe hn⟩
    · rw [if_neg hm, leftR_f, Option.bind_some]
      dsimp only
      have hx : 1 ≤ mx least 1 := by unfold mx; split <;> omega
      rw [if_neg (by omega)]
      split
      · rw [fail_ok hk, Option.bind_some]
        exact ⟨_, _, _, _, rfl, ⟨h.len, h.a0, h.a1, fun h => by simp at h⟩, fun hn => absurd hfe hn⟩
      · exact ⟨_, _, _, _, rfl, hr, fun hn => absurd hfe hn⟩
  · rw [decide_eq_false he] at hk
    rw [if_neg (by rw [hk]; decide)]
    exact ⟨_, _, _, _, rfl, hr, fun hn => ⟨rfl, (hz hn).2⟩⟩
def BB (b : List Int) : Prop := ∀ x ∈ b, 0 ≤ x ∧ x ≤ 255
theorem rd_BB {b : List Int} (h : BB b) (i : Int) : 0 ≤ rd b i ∧ rd b i ≤ 255 := by
  unfold rd
  rw [List.getD_eq_getElem?_getD]
  cases hq : b[i.toNat]? with
  | none => simp
  | some y => exact h y (List.mem_of_getElem? hq)
theorem vstep_eq (v c : Int) (h0 : 0 ≤ v) (h1 : v < 72057594037927936) (c0 : 0 ≤ c) (c1 : c ≤ 255) : vstep v c = 256 * v + c := by
  unfold vstep
  rw [show (v * 256) % 18446744073709551616 = v * 256 by omega, show c % 18446744073709551616 = c by omega]
  rw [bits_join .u64 64 (by decide) (fun n a b => by have e : ∀ x : Int, IntKind.u64.wrap x = x % 18446744073709551616 := fun x => by simp [IntKind.wrap, IntKind.bits, IntKind.signed]
                                                     rw [e]; omega) 8 (v * 256) c (by omega) (by omega) (by omega) c0 (by omega) (by omega)]
  omega
theorem seg8 (b : List Int) (n : Nat) (h : n + 8 ≤ b.length) : (b.take (n + 8)).drop n = [rd b n, rd b (n + 1 : Nat), rd b (n + 2 : Nat), rd b (n + 3 : Nat), rd b (n + 4 : Nat), rd b (n + 5 : Nat), rd b (n + 6 : Nat), rd b (n + 7 : Nat)] := by
  have e : ∀ m : Nat, m < b.length → b.drop m = rd b (m : Int) :: b.drop (m + 1) := fun m hm => by
    rw [List.drop_eq_getElem_cons hm]
    unfold rd
    rw [Int.toNat_natCast, List.getD_eq_getElem?_getD, List.getElem?_eq_getElem hm]
    rfl
  rw [List.drop_take, show n + 8 - n = 8 by omega, e n (by omega), e (n + 1) (by omega), e (n + 2) (by omega), e (n + 3) (by omega), e (n + 4) (by omega), e (n + 5) (by omega), e (n + 6) (by omega), e (n + 7) (by omega)]
  simp
theorem vfold8 (c0 c1 c2 c3 c4 c5 c6 c7 : Int) (h0 : 0 ≤ c0 ∧ c0 ≤ 255) (h1 : 0 ≤ c1 ∧ c1 ≤ 255) (h2 : 0 ≤ c2 ∧ c2 ≤ 255) (h3 : 0 ≤ c3 ∧ c3 ≤ 255) (h4 : 0 ≤ c4 ∧ c4 ≤ 255) (h5 : 0 ≤ c5 ∧ c5 ≤ 255) (h6 : 0 ≤ c6 ∧ c6 ≤ 255) (h7 : 0 ≤ c7 ∧ c7 ≤ 255) :
    vfold [c0, c1, c2, c3, c4, c5, c6, c7] = 256 * (256 * (256 * (256 * (256 * (256 * (256 * (256 * 0 + c0) + c1) + c2) + c3) + c4) + c5) + c6) + c7 := by
  unfold vfold
  simp only [List.foldl]
  rw [vstep_eq 0 c0 (by omega) (by omega) h0.1 h0.2, vstep_eq _ c1 (by omega) (by omega) h1.1 h1.2, vstep_eq _ c2 (by omega) (by omega) h2.1 h2.2, vstep_eq _ c3 (by omega) (by omega) h3.1 h3.2, vstep_eq _ c4 (by omega) (by omega) h4.1 h4.2, vstep_eq _ c5 (by omega) (by omega) h5.1 h5.2, vstep_eq _ c6 (by omega) (by omega) h6.1 h6.2, vstep_eq _ c7 (by omega) (by omega) h7.1 h7.2]
theorem nbs8 (m : Int) : nbs m 8 = [m / 256 / 256 / 256 / 256 / 256 / 256 / 256 % 256, m / 256 / 256 / 256 / 256 / 256 / 256 % 256, m / 256 / 256 / 256 / 256 / 256 % 256, m / 256 / 256 / 256 / 256 % 256, m / 256 / 256 / 256 % 256, m / 256 / 256 % 256, m / 256 % 256, m % 256] := by
  have e : ∀ x : Int, IntKind.u8.wrap x = x % 256 := IntKind.wrap_u8
  have h : nbs m 8 = [nb m 7, nb m 6, nb m 5, nb m 4, nb m 3, nb m 2, nb m 1, nb m 0] := rfl
  rw [h]
  have n7 : nb m 7 = m / 72057594037927936 % 256 := by unfold nb; rw [e]; rfl
  have n6 : nb m 6 = m / 281474976710656 % 256 := by unfold nb; rw [e]; rfl
  have n5 : nb m 5 = m / 1099511627776 % 256 := by unfold nb; rw [e]; rfl
  have n4 : nb m 4 = m / 4294967296 % 256 := by unfold nb; rw [e]; rfl
  have n3 : nb m 3 = m / 16777216 % 256 := by unfold nb; rw [e]; rfl
  have n2 : nb m 2 = m / 65536 % 256 := by unfold nb; rw [e]; rfl
  have n1 : nb m 1 = m / 256 % 256 := by unfold nb; rw [e]; rfl
  have n0 : nb m 0 = m / 1 % 256 := by unfold nb; rw [e]; rfl
  rw [n7, n6, n5, n4, n3, n2, n1, n0]
  have a7 : m / 256 / 256 / 256 / 256 / 256 / 256 / 256 = m / 72057594037927936 := by omega
  have a6 : m / 256 / 256 / 256 / 256 / 256 / 256 = m / 281474976710656 := by omega
  have a5 : m / 256 / 256 / 256 / 256 / 256 = m / 1099511627776 := by omega
  have a4 : m / 256 / 256 / 256 / 256 = m / 4294967296 := by omega
  have a3 : m / 256 / 256 / 256 = m / 16777216 := by omega
  have a2 : m / 256 / 256 = m / 65536 := by omega
  rw [a7, a6, a5, a4, a3, a2, Int.ediv_one]
structure Over (b : List Int) (a fa fe : Int) (s : List Int) : Prop where
  rd : Rd b a fa fe
  sofar : fe = 0 → b.take a.toNat = s
theorem nbs_vfold8 (c0 c1 c2 c3 c4 c5 c6 c7 : Int) (h0 : 0 ≤ c0 ∧ c0 ≤ 255) (h1 : 0 ≤ c1 ∧ c1 ≤ 255) (h2 : 0 ≤ c2 ∧ c2 ≤ 255) (h3 : 0 ≤ c3 ∧ c3 ≤ 255) (h4 : 0 ≤ c4 ∧ c4 ≤ 255) (h5 : 0 ≤ c5 ∧ c5 ≤ 255) (h6 : 0 ≤ c6 ∧ c6 ≤ 255) (h7 : 0 ≤ c7 ∧ c7 ≤ 255) :
    nbs (vfold [c0, c1, c2, c3, c4, c5, c6, c7]) 8 = [c0, c1, c2, c3, c4, c5, c6, c7] := by
  rw [vfold8 _ _ _ _ _ _ _ _ h0 h1 h2 h3 h4 h5 h6 h7, nbs8]
  have d : ∀ x c : Int, 0 ≤ c → c ≤ 255 → (256 * x + c) / 256 = x := fun x c a b => by omega
  have m : ∀ x c : Int, 0 ≤ c → c ≤ 255 → (256 * x + c) % 256 = c := fun x c a b => by omega
  rw [d _ c7 h7.1 h7.2, d _ c6 h6.1 h6.2, d _ c5 h5.1 h5.2, d _ c4 h4.1 h4.2, d _ c3 h3.1 h3.2, d _ c2 h2.1 h2.2, d _ c1 h1.1 h1.2]
  rw [m _ c7 h7.1 h7.2, m _ c6 h6.1 h6.2, m _ c5 h5.1 h5.2, m _ c4 h4.1 h4.2, m _ c3 h3.1 h3.2, m _ c2 h2.1 h2.2, m _ c1 h1.1 h1.2, m _ c0 h0.1 h0.2]
theorem clampN_id {r : Int} (h0 : 0 ≤ r) (h1 : r ≤ 4611686018427387904) : clampN r = r := by
  unfold clampN mn mx
  rw [if_neg (by omega), if_neg (by omega)]
theorem num_over {b : List Int} {a fa fe : Int} {s : List Int} (hB : BB b) (h : Over b a fa fe s) : ∃ r a' f' e', field_Reader_Num.f b a fa fe = some (r, a', f', e') ∧ Over b a' f' e' (s ++ nbs (clampN r) 8) ∧ 0 ≤ r ∧ r ≤ 4611686018427387904 ∧ (fe ≠ 0 → e' ≠ 0) := by
  obtain ⟨r, a', f', e', hn, hr, hz0, q0, q1⟩ := num_step h.rd
  have hz : fe ≠ 0 → e' ≠ 0 := fun hf => by rw [(hz0 hf).2.2]; exact hf
  refine ⟨r, a', f', e', hn, ⟨hr, fun he => ?_⟩, q0, q1, hz⟩
  have hfe : fe = 0 := by
    by_cases hf : fe = 0
    · exact hf
    · exact absurd he (hz hf)
  have hl := h.rd.len; have h0 := h.rd.a0; have h1 := h.rd.a1
  rw [clampN_id q0 q1, ← h.sofar hfe]
  unfold field_Reader_Num.f at hn
  rw [h.rd.ok, if_pos (decide_eq_true hfe)] at hn
  obtain ⟨n, rfl⟩ := Int.eq_ofNat_of_zero_le h0
  have w1 : wrap64 ((b.length : Int) - n) = (b.length : Int) - n := by unfold wrap64; omega
  rw [w1] at hn
  by_cases hsh : (b.length : Int) - n < 8
  · rw [if_pos hsh] at hn
    simp only [Option.some.injEq, Prod.mk.injEq] at hn
    omega
  · rw [if_neg hsh, if_pos ⟨h0, by omega⟩, show ((n : Int) + 8).toNat = n + 8 by omega, Int.toNat_natCast] at hn
    have hlen : n + 8 ≤ b.length := by omega
    have hs := seg8 b n hlen
    have hv := nbs_vfold8 _ _ _ _ _ _ _ _ (rd_BB hB n) (rd_BB hB (n + 1 : Nat)) (rd_BB hB (n + 2 : Nat)) (rd_BB hB (n + 3 : Nat)) (rd_BB hB (n + 4 : Nat)) (rd_BB hB (n + 5 : Nat)) (rd_BB hB (n + 6 : Nat)) (rd_BB hB (n + 7 : Nat))
    rw [← hs] at hv
    have hv0 := vfold_lo ((b.take (n + 8)).drop n)
    by_cases hv1 : vfold ((b.take (n + 8)).drop n) > 4611686018427387904
    · rw [if_pos hv1] at hn
      simp only [Option.some.injEq, Prod.mk.injEq] at hn
      omega
    · rw [if_neg hv1] at hn
      simp only [Option.some.injEq, Prod.mk.injEq] at hn
      obtain ⟨hr1, ha, _, _⟩ := hn
      have e2 : wrap64 (vfold ((b.take (n + 8)).drop n)) = vfold ((b.take (n + 8)).drop n) := by unfold wrap64; omega
      rw [e2] at hr1
      rw [← ha, ← hr1, hv, show ((n : Int) + 8).toNat = n + 8 by omega, Int.toNat_natCast]
      have := List.take_append_drop n (b.take (n + 8))
      rw [List.take_take, show min n (n + 8) = n by omega] at this
      exact this.symm
theorem count_over {b : List Int} {a fa fe : Int} {s : List Int} (hB : BB b) (h : Over b a fa fe s) (m : Int) (hm : m < 100000000) : ∃ r a' f' e', field_Reader_Count.f b a fa fe m 8 = some (r, a', f', e') ∧ Over b a' f' e' (s ++ nbs (clampN r) 8) ∧ 0 ≤ r ∧ (0 ≤ m → r ≤ m) ∧ (fe ≠ 0 → e' ≠ 0) := by
  obtain ⟨n, a1, f1, e1, hn, hO, n0, n1, hz⟩ := num_over hB h
  unfold field_Reader_Count.f
  rw [hn, Option.bind_some]
  dsimp only
  rw [okR_f, Option.bind_some]
  dsimp only
  have hr := hO.rd
  have hl := hr.len; have h0 := hr.a0; have h1 := hr.a1
  have hk := hr.ok
  by_cases he : e1 = 0
  · rw [decide_eq_true he] at hk
    rw [if_pos hk]
    by_cases hm2 : n > m
    · rw [if_pos hm2, fail_ok hk, Option.bind_some]
      exact ⟨_, _, _, _, rfl, ⟨⟨h.rd.len, h.rd.a0, h.rd.a1, fun h => by simp at h⟩, fun h => by simp at h⟩, Int.le_refl _, fun h => h, fun _ h => by simp at h⟩
    · rw [if_neg hm2, leftR_f, Option.bind_some]
      dsimp only
      have hx : 1 ≤ mx 8 1 := by decide
      rw [if_neg (by omega)]
      split
      · rw [fail_ok hk, Option.bind_some]
        exact ⟨_, _, _, _, rfl, ⟨⟨h.rd.len, h.rd.a0, h.rd.a1, fun h => by simp at h⟩, fun h => by simp at h⟩, Int.le_refl _, fun h => h, fun _ h => by simp at h⟩
      · exact ⟨_, _, _, _, rfl, hO, n0, fun _ => by omega, hz⟩
  · rw [decide_eq_false he] at hk
    rw [if_neg (by rw [hk]; decide)]
    exact ⟨_, _, _, _, rfl, ⟨hr, fun h => absurd h he⟩, Int.le_refl _, fun h => h, fun _ => he⟩
theorem end_over {b : List Int} {a fa fe : Int} {s : List Int} (h : Over b a fa fe s) (k : Nat) : ∃ r a' f' e', field_Reader_End.f (k + 1) b a fa fe = some (r, a', f', e') ∧ Rd b a' f' e' ∧ (r = true → b = s ∧ fe = 0) ∧ (r = false → e' ≠ 0) := by
  unfold field_Reader_End.f
  rw [okR_f, Option.bind_some]
  dsimp only
  have hr := h.rd
  have hk := hr.ok
  have hl := hr.len; have h0 := hr.a0; have h1 := hr.a1
  by_cases he : fe = 0
  · rw [decide_eq_true he] at hk
    rw [if_pos hk, leftR_f, Option.bind_some]
    dsimp only
    rw [field_Reader_End.j0]
    have hw : wrap64 ((b.length : Int) - a) = (b.length : Int) - a := by unfold wrap64; omega
    rw [hw]
    by_cases hp : 0 < (b.length : Int) - a
    · rw [if_pos (decide_eq_true hp), fail_ok hk, Option.bind_some, okR_f, Option.bind_some]
      exact ⟨_, _, _, _, rfl, ⟨hl, h0, h1, fun h => by simp at h⟩, fun h => by simp [okR] at h, fun _ h => by simp at h⟩
    · rw [if_neg (by rw [decide_eq_false hp]; decide), okR_f, Option.bind_some]
      refine ⟨okR fa fe, a, fa, fe, rfl, hr, fun _ => ⟨?_, he⟩, fun h => by rw [hk] at h; cases h⟩
      have := h.sofar he
      rw [List.take_of_length_le (by omega)] at this
      exact this
  · rw [decide_eq_false he] at hk
    rw [if_neg (by rw [hk]; decide), field_Reader_End.j0, if_neg (by decide), okR_f, Option.bind_some]
    exact ⟨okR fa fe, a, fa, fe, rfl, hr, fun h => (by rw [hk] at h; cases h), fun _ => he⟩
end Go.Proofs.YtchfkkpghipeiaaDoor.Q
end

section
namespace Go.Proofs.YtchfkkpghipeiaaDoor.Q
open Go.RowKit Go.Shelf Go.Proofs.YtchfkkpghipeiaaDoorW.PrintWords Go.Proofs.YtchfkkpghipeiaaDoorW.PrintLast Go.Proofs.YtchfkkpghipeiaaDoorW.PrintMore
set_option linter.unusedVariables false
set_option linter.unusedSimpArgs false

/-- A row of ticks that is read (ok: its blocks). -/
def RowF (W : World) (ok : Nat → Prop) (p : Value × List Int) : Prop := ∃ A c, p.1 = .slice A p.2.length c ∧ p.2.length ≤ c ∧ Kd.F (Kd.int .i64) W ok A p.2.length p.2
theorem RowF.step {W W' : World} {ok : Nat → Prop} {p : Value × List Int} (h : RowF W ok p) (hm : ∀ k, ok k → k < W.heap.size → W'.heap[k]? = W.heap[k]?) : RowF W' ok p := by
  obtain ⟨A, c, e, hc, hF⟩ := h
  exact ⟨A, c, e, hc, Kd.F_step hF hm⟩
theorem RowF.mono {W : World} {ok ok' : Nat → Prop} {p : Value × List Int} (h : RowF W ok p) (hm : ∀ k, ok k → k < W.heap.size → ok' k) : RowF W ok' p := by
  obtain ⟨A, c, e, hc, hF⟩ := h
  exact ⟨A, c, e, hc, Kd.F_mono (Kd.F_bound hF) (fun k hk => hm k hk.1 hk.2)⟩
def nilV : Value := .slice none 0 0
def IsAll (n0 : Nat) (W : World) (a : Nat) (ps : List (Value × List Int)) (k : Nat) : Prop :=
  W.heap[a]? = some (.cells (ps.map (·.1) ++ List.replicate k nilV).toArray 24 (0, 0)) ∧ n0 ≤ a ∧ ∀ p ∈ ps, RowF W (fun q => n0 ≤ q ∧ q ≠ a) p
def IsAll1 (n0 : Nat) (W : World) (a : Nat) (ps : List (Value × List Int)) (v : Value) (xs : List Int) (k : Nat) : Prop :=
  W.heap[a]? = some (.cells (ps.map (·.1) ++ v :: List.replicate k nilV).toArray 24 (0, 0)) ∧ n0 ≤ a ∧ Kd.R (Kd.int .i64) 3 W n0 (fun q => q ≠ a) v xs ∧ ∀ p ∈ ps, RowF W (fun q => (n0 ≤ q ∧ q ≠ a) ∧ some q ≠ v.ownBlock) p
theorem IsAll.one {n0 : Nat} {W : World} {a : Nat} {ps : List (Value × List Int)} {k : Nat} (h : IsAll n0 W a ps (k + 1)) : IsAll1 n0 W a ps nilV [] k := by
  obtain ⟨h1, h2, h3⟩ := h
  exact ⟨by rw [List.replicate_succ] at h1; exact h1, h2, Kd.R_nil _ _ _ _ _, fun p hp => (h3 p hp).mono (fun q hq _ => ⟨hq, by simp [nilV, Value.ownBlock]⟩)⟩
theorem IsAll1.all {n0 : Nat} {W : World} {a : Nat} {ps : List (Value × List Int)} {v : Value} {xs : List Int} {k : Nat} (h : IsAll1 n0 W a ps v xs k) : IsAll n0 W a (ps ++ [(v, xs)]) k := by
  obtain ⟨h1, h2, h3, h4⟩ := h
  refine ⟨by simpa using h1, h2, fun p hp => ?_⟩
  rcases List.mem_append.1 hp with hp | hp
  · exact (h4 p hp).mono (fun q hq _ => hq.1)
  · rw [List.mem_singleton] at hp
    subst hp
    obtain ⟨A, c, rfl, hc, _⟩ := Kd.R_reads h3
    exact ⟨A, c, rfl, hc, Kd.F_mono (Kd.R_F (Kd.R_bound h3)) (fun q hq => ⟨hq.2.1, hq.1⟩)⟩
theorem IsAll.keep {n0 r : Nat} {W W' : World} {a : Nat} {ps : List (Value × List Int)} {k : Nat} (h : IsAll n0 W a ps k) (hk : KeepBut W W' r none) (hr : r < n0) : IsAll n0 W' a ps k := by
  obtain ⟨h1, h2, h3⟩ := h
  exact ⟨hk.blk h1 (by omega) (by simp), h2, fun p hp => (h3 p hp).step (fun q hq hl => hk.2 q hl (by have := hq.1; omega) (by simp))⟩
theorem IsAll1.keep {n0 r : Nat} {W W' : World} {a : Nat} {ps : List (Value × List Int)} {v : Value} {xs : List Int} {k : Nat} (h : IsAll1 n0 W a ps v xs k) (hk : KeepBut W W' r none) (hr : r < n0) : IsAll1 n0 W' a ps v xs k := by
  obtain ⟨h1, h2, h3, h4⟩ := h
  exact ⟨hk.blk h1 (by omega) (by simp), h2, Kd.R_mono (Kd.R_keep (Kd.R_bound h3) hk (fun q hq => by have := hq.2.1; omega)) (fun q hq => hq.1), fun p hp => (h4 p hp).step (fun q hq hl => hk.2 q hl (by have := hq.1.1; omega) (by simp))⟩
theorem IsAll1.below {n0 : Nat} {W W' : World} {a : Nat} {ps : List (Value × List Int)} {v : Value} {xs : List Int} {k : Nat} (h : IsAll1 n0 W a ps v xs k) (hb : Below W.heap.size W W') : IsAll1 n0 W' a ps v xs k := by
  obtain ⟨h1, h2, h3, h4⟩ := h
  exact ⟨blk_below h1 hb, h2, Kd.R_below h3 hb, fun p hp => (h4 p hp).step (fun q hq hl => hb.block q hl)⟩
/-- A tick more. -/
theorem IsAll1.more {n0 : Nat} {W W' : World} {a : Nat} {ps : List (Value × List Int)} {v v' : Value} {xs xs' : List Int} {k : Nat} (h : IsAll1 n0 W a ps v xs k) (hg : W.grownBy W' v.ownBlock) (hat : v'.ownBlock = v.ownBlock ∨ ∃ b, v'.ownBlock = some b ∧ W.heap.size ≤ b) (hR : Kd.R (Kd.int .i64) 3 W' n0 (fun q => q ≠ a) v' xs') :
    IsAll1 n0 (W'.setCell ⟨a, ps.length, none⟩ v') a ps v' xs' k := by
  obtain ⟨h1, h2, h3, h4⟩ := h
  have hne : some a ≠ v.ownBlock := Kd.R_ne h3 h1 (by decide)
  have hb := blk_grown h1 hg hne
  refine ⟨blk_put hb ps.length v' ?_, h2, Kd.R_far hR (fun _ hq => hq) v', fun p hp => ?_⟩
  · apply Array.ext'
    simp
  · refine RowF.step (W := W') ?_ (fun q hq _ => Below.heap_setCell W' _ v' q hq.1.2)
    refine RowF.mono (RowF.step (RowF.mono (h4 p hp) (ok' := fun q => ((n0 ≤ q ∧ q ≠ a) ∧ some q ≠ v.ownBlock) ∧ q < W.heap.size) (fun q hq hl => ⟨hq, hl⟩)) (fun q hq hl => hg.block q hl hq.1.2)) (fun q hq _ => ⟨hq.1.1, ?_⟩)
    rcases hat with e | ⟨b, e, hle⟩
    · rw [e]; exact hq.1.2
    · rw [e]
      intro he
      injection he with he
      have := hq.2
      omega
theorem IsAll1.cell {n0 : Nat} {W : World} {a : Nat} {ps : List (Value × List Int)} {v : Value} {xs : List Int} {k : Nat} (h : IsAll1 n0 W a ps v xs k) : W.cell? ⟨a, ps.length, none⟩ = some v := by
  refine (blk_cell h.1 ps.length).trans ?_
  simp
theorem IsAll.cell {n0 : Nat} {W : World} {a : Nat} {ps : List (Value × List Int)} {k : Nat} (h : IsAll n0 W a ps k) (j : Nat) (hj : j < ps.length) : W.cell? ⟨a, j, none⟩ = some ps[j].1 := by
  refine (blk_cell h.1 j).trans ?_
  rw [List.getElem?_toArray, List.getElem?_append_left (by simpa using hj), List.getElem?_map, List.getElem?_eq_getElem hj]
  rfl
theorem IsAll.make (W : World) (n : Nat) : IsAll W.heap.size (W.alloc (.cells (List.replicate n nilV).toArray 24)) W.heap.size [] n := ⟨by rw [List.map_nil, List.nil_append]; exact blk_new _ _, Nat.le_refl _, fun p hp => by cases hp⟩

/-- The rows' bytes. -/
def psB (ps : List (Value × List Int)) : List Int := ps.flatMap (fun p => numB p.2.length ++ ticksB p.2)
theorem psB_more (ps : List (Value × List Int)) (v : Value) (xs : List Int) : psB (ps ++ [(v, xs)]) = psB ps ++ (numB xs.length ++ ticksB xs) := by
  simp [psB]
theorem ticksB_more (xs : List Int) (y : Int) : ticksB (xs ++ [y]) = ticksB xs ++ numB y := by
  simp [ticksB]
def Tk (xs : List Int) : Prop := xs.length ≤ 1000 ∧ ∀ y ∈ xs, 0 ≤ y ∧ y ≤ 4611686018427387904
/-- The reader, having gone over s. -/
def RdAt (wb W : World) (r : Nat) (b s : List Int) : Prop := ∃ p fa fe, IsS73 wb W r b p fa fe ∧ Over b p fa fe s
theorem RdAt.below {wb W W' : World} {r : Nat} {b s : List Int} (h : RdAt wb W r b s) (hb : Below W.heap.size W W') : RdAt wb W' r b s := by
  obtain ⟨p, fa, fe, hi, ho⟩ := h
  exact ⟨p, fa, fe, hi.below hb, ho⟩
theorem RdAt.grown {wb W W' : World} {r : Nat} {b s : List Int} {row : Option Nat} (h : RdAt wb W r b s) (hg : W.grownBy W' row) (hne : some r ≠ row) : RdAt wb W' r b s := by
  obtain ⟨p, fa, fe, hi, ho⟩ := h
  exact ⟨p, fa, fe, hi.grown hg hne, ho⟩
theorem RdAt.far {wb W : World} {r : Nat} {b s : List Int} {p : Addr} (h : RdAt wb W r b s) (hne : r ≠ p.block) (u : Value) : RdAt wb (W.setCell p u) r b s := by
  obtain ⟨q, fa, fe, hi, ho⟩ := h
  exact ⟨q, fa, fe, hi.far hne u, ho⟩
structure A1 (wb W4 : World) (r a : Nat) (b S : List Int) (W : World) (ps : List (Value × List Int)) (k : Nat) : Prop where
  all : IsAll W4.heap.size W a ps k
  rd : RdAt wb W r b (S ++ psB ps)
  bd : ∀ p ∈ ps, Tk p.2
  bel : Below wb.heap.size wb W
  kp : KeepBut W4 W r none
structure A2 (wb W4 : World) (r a : Nat) (b S : List Int) (W : World) (ps : List (Value × List Int)) (v : Value) (xs : List Int) (k : Nat) : Prop where
  all : IsAll1 W4.heap.size W a ps v xs k
  rd : RdAt wb W r b (S ++ ticksB xs)
  bd : ∀ p ∈ ps, Tk p.2
  bx : ∀ y ∈ xs, 0 ≤ y ∧ y ≤ 4611686018427387904
  bel : Below wb.heap.size wb W
  kp : KeepBut W4 W r none

theorem num_rd (wb W : World) (r : Nat) (b s : List Int) (hB : BB b) (h : RdAt wb W r b s) (hb : Below wb.heap.size wb W) :
    Calls Tryd.prog 23 #[.pointer (some ⟨r, 0, none⟩)] W fun e W' => ∃ y, e = .returned (.int .i64 y) ∧ RdAt wb W' r b (s ++ numB y) ∧ Below wb.heap.size wb W' ∧ KeepBut W W' r none ∧ 0 ≤ y ∧ y ≤ 4611686018427387904 := by
  obtain ⟨p, fa, fe, hi, ho⟩ := h
  obtain ⟨y, p', fa', fe', hf, ho', h0, h1, _⟩ := num_over hB ho
  refine (field_Reader_Num.calls r b p fa fe y p' fa' fe' wb W hi hb hf).mono ?_
  rintro e W' ⟨rfl, hi', hb', hk⟩
  exact ⟨y, rfl, ⟨p', fa', fe', hi', ho'⟩, hb', hk, h0, h1⟩
theorem count_rd (wb W : World) (r : Nat) (b s : List Int) (m : Int) (hB : BB b) (h : RdAt wb W r b s) (hb : Below wb.heap.size wb W) (hm0 : 0 ≤ m) (hm : m < 100000000) :
    Calls Tryd.prog 22 #[.pointer (some ⟨r, 0, none⟩), .int .i64 m, .int .i64 8] W fun e W' => ∃ y : Nat, e = .returned (.int .i64 (y : Int)) ∧ RdAt wb W' r b (s ++ numB y) ∧ Below wb.heap.size wb W' ∧ KeepBut W W' r none ∧ (y : Int) ≤ m := by
  obtain ⟨p, fa, fe, hi, ho⟩ := h
  obtain ⟨y, p', fa', fe', hf, ho', h0, h1, _⟩ := count_over hB ho m hm
  obtain ⟨n, rfl⟩ := Int.eq_ofNat_of_zero_le h0
  refine (field_Reader_Count.calls r b p fa fe m 8 (n : Int) p' fa' fe' wb W hi hb hf).mono ?_
  rintro e W' ⟨rfl, hi', hb', hk⟩
  exact ⟨n, rfl, ⟨p', fa', fe', hi', ho'⟩, hb', hk, h1 hm0⟩
theorem end_rd (wb W : World) (r : Nat) (b s : List Int) (h : RdAt wb W r b s) (hb : Below wb.heap.size wb W) :
    Calls Tryd.prog 24 #[.pointer (some ⟨r, 0, none⟩)] W fun e W' => ∃ t : Bool, e = .returned (.bool t) ∧ Below wb.heap.size wb W' ∧ KeepBut W W' r none ∧ (t = true → b = s) ∧ (t = false → ∃ p fa fe, IsS73 wb W' r b p fa fe ∧ fe ≠ 0) := by
  obtain ⟨p, fa, fe, hi, ho⟩ := h
  obtain ⟨t, p', fa', fe', hf, _, h1, h2⟩ := end_over ho 0
  refine (field_Reader_End.calls 1 r b p fa fe t p' fa' fe' wb W hi hb hf).mono ?_
  rintro e W' ⟨rfl, hi', hb', hk⟩
  exact ⟨t, rfl, hb', hk, fun ht => (h1 ht).1, fun ht => ⟨p', fa', fe', hi', h2 ht⟩⟩
theorem new_rd (A : Option Addr) (c : Nat) (b : List Int) (w : World) (hr : Kd.C (Kd.int .u8) w A b.length b) (hc : b.length ≤ c) (hl : b.length ≤ 300) :
    Calls Tryd.prog 20 #[.slice A b.length c] w fun e W' => ∃ (r : Nat) (wb : World), e = .returned (.pointer (some ⟨r, 0, none⟩)) ∧ RdAt wb W' r b [] ∧ Below wb.heap.size wb W' ∧ Below w.heap.size w wb ∧ r < W'.heap.size ∧ wb.heap.size ≤ r := by
  refine (field_NewReader.calls A c b b 0 0 0 w w (Below.refl _ _) hr hc (by unfold field_NewReader.f; rw [if_pos (by omega)])).mono ?_
  rintro e W' ⟨r, wb, rfl, hi, hb, _, hw⟩
  exact ⟨r, wb, rfl, ⟨0, 0, 0, hi, ⟨⟨by omega, by omega, by omega, fun _ => rfl⟩, fun _ => rfl⟩⟩, hb, hw, hi.lt, hi.ge⟩
end Go.Proofs.YtchfkkpghipeiaaDoor.Q
end

section
namespace Go.Proofs.YtchfkkpghipeiaaDoor.Q
open Go.RowKit Go.Shelf Go.Proofs.YtchfkkpghipeiaaDoorW.PrintWords Go.Proofs.YtchfkkpghipeiaaDoorW.PrintLast Go.Proofs.YtchfkkpghipeiaaDoorW.PrintMore
set_option linter.unusedVariables false
set_option linter.unusedSimpArgs false

/-- A row's cells. -/
def rowv (q : S23) (v : Value) : List Value := [.string q.f0, .int .i64 q.f1, .int .i64 q.f2, v]
def rowsZ (qs : List S23) (ps : List (Value × List Int)) : List (List Value) := List.zipWith (fun q p => rowv q p.1) qs ps
def zipL (qs : List S23) (ps : List (Value × List Int)) : List S46 := List.zipWith (fun q p => ⟨q, p.2⟩) qs ps
def rowsAt (qs : List S23) (ps : List (Value × List Int)) (j : Nat) : List (List Value) := rowsZ (qs.take j) (ps.take j) ++ (qs.drop j).map rowq
theorem rowsAt_zero (qs : List S23) (ps : List (Value × List Int)) : rowsAt qs ps 0 = qs.map rowq := by simp [rowsAt, rowsZ]
theorem rowsAt_all (qs : List S23) (ps : List (Value × List Int)) (h : ps.length = qs.length) : rowsAt qs ps qs.length = rowsZ qs ps := by
  unfold rowsAt
  rw [List.take_length, ← h, List.take_length, h, List.drop_length, List.map_nil, List.append_nil]
theorem rowsZ_len (qs : List S23) (ps : List (Value × List Int)) (h : ps.length = qs.length) : (rowsZ qs ps).length = qs.length := by
  simp [rowsZ, h]
theorem zipL_len (qs : List S23) (ps : List (Value × List Int)) (h : ps.length = qs.length) : (zipL qs ps).length = qs.length := by
  simp [zipL, h]
theorem take_len (qs : List S23) (ps : List (Value × List Int)) (h : ps.length = qs.length) (j : Nat) : (ps.take j).length = (qs.take j).length := by
  simp [h]
theorem rowsAt_at (qs : List S23) (ps : List (Value × List Int)) (h : ps.length = qs.length) (j : Nat) (hj : j < qs.length) : rowsAt qs ps j = rowsZ (qs.take j) (ps.take j) ++ rowq qs[j] :: (qs.drop (j + 1)).map rowq := by
  unfold rowsAt
  rw [List.drop_eq_getElem_cons hj, List.map_cons]
theorem rowsAt_len (qs : List S23) (ps : List (Value × List Int)) (h : ps.length = qs.length) (j : Nat) : (rowsAt qs ps j).length = qs.length := by
  unfold rowsAt
  rw [List.length_append, rowsZ_len _ _ (take_len qs ps h j), List.length_map, List.length_take, List.length_drop]
  omega
theorem rowsAt_get (qs : List S23) (ps : List (Value × List Int)) (h : ps.length = qs.length) (j : Nat) (hj : j < qs.length) (z : List Value) : (rowsAt qs ps j).getD j z = rowq qs[j] := by
  have hl : (rowsZ (qs.take j) (ps.take j)).length = j := by rw [rowsZ_len _ _ (take_len qs ps h j), List.length_take]; omega
  rw [rowsAt_at qs ps h j hj, List.getD_eq_getElem?_getD, List.getElem?_append_right (by omega), hl, Nat.sub_self]
  rfl
theorem rowsAt_set (qs : List S23) (ps : List (Value × List Int)) (h : ps.length = qs.length) (j : Nat) (hj : j < qs.length) (hj2 : j < ps.length) : (rowsAt qs ps j).set j (rowv qs[j] ps[j].1) = rowsAt qs ps (j + 1) := by
  have hl : (rowsZ (qs.take j) (ps.take j)).length = j := by rw [rowsZ_len _ _ (take_len qs ps h j), List.length_take]; omega
  rw [rowsAt_at qs ps h j hj]
  have e : (rowsZ (qs.take j) (ps.take j) ++ rowq qs[j] :: (qs.drop (j + 1)).map rowq).set j (rowv qs[j] ps[j].1) = rowsZ (qs.take j) (ps.take j) ++ rowv qs[j] ps[j].1 :: (qs.drop (j + 1)).map rowq := by
    rw [List.set_append_right _ _ (by omega), hl, Nat.sub_self]
    rfl
  rw [e]
  unfold rowsAt
  rw [List.take_succ_eq_append_getElem hj, List.take_succ_eq_append_getElem hj2]
  have e2 : rowsZ (qs.take j ++ [qs[j]]) (ps.take j ++ [ps[j]]) = rowsZ (qs.take j) (ps.take j) ++ [rowv qs[j] ps[j].1] := by
    unfold rowsZ
    rw [List.zipWith_append (take_len qs ps h j).symm]
    rfl
  rw [e2, List.append_assoc]
  rfl
theorem rowsB_zip : ∀ (qs : List S23) (ps : List (Value × List Int)), ps.length = qs.length → rowsB (zipL qs ps) = psB ps
  | [], [], _ => rfl
  | [], _ :: _, h => by simp at h
  | _ :: _, [], h => by simp at h
  | q :: qs, p :: ps, h => by
    have ih := rowsB_zip qs ps (by simpa using h)
    unfold zipL rowsB psB at *
    rw [List.zipWith_cons_cons, List.flatMap_cons, List.flatMap_cons, ih]
    rfl
theorem zip_C46 {W : World} {A : Option Addr} {qs : List S23} {ps : List (Value × List Int)} {ok : Nat → Prop} (hC : (Kd.raw 4).C W A (rowsZ qs ps).length (rowsZ qs ps)) (hl : ps.length = qs.length) (hF : ∀ p ∈ ps, RowF W ok p) : Kd.C k46 W A (zipL qs ps).length (zipL qs ps) := by
  obtain ⟨h1, h2, h3⟩ := hC
  rw [rowsZ_len qs ps hl] at h2 h3
  refine ⟨rfl, by rw [zipL_len qs ps hl]; exact h2, fun hp => ?_⟩
  rw [zipL_len qs ps hl] at hp
  obtain ⟨ad, e, hx⟩ := h3 hp
  refine ⟨ad, e, fun j x hj => ?_⟩
  obtain ⟨q, p, hq, hp2, rfl⟩ := List.getElem?_zipWith_eq_some.1 hj
  obtain ⟨A', c', e', hc', hFp⟩ := hF p (List.mem_of_getElem? hp2)
  obtain ⟨cs, c1, c2, c3⟩ := hx j (rowv q p.1) (List.getElem?_zipWith_eq_some.2 ⟨q, p, hq, hp2, rfl⟩)
  obtain rfl : cs = rowv q p.1 := c2.1
  refine ⟨rowv q p.1, rfl, ?_, c3⟩
  unfold rowv
  rw [e']
  exact k46_mk W ⟨q, p.2⟩ hc' (Kd.F_now hFp)
theorem zipL_Tk {qs : List S23} {ps : List (Value × List Int)} (h : ∀ p ∈ ps, Tk p.2) : ∀ x ∈ zipL qs ps, Tk x.f1 := by
  intro x hx
  obtain ⟨j, hj⟩ := List.getElem?_of_mem hx
  obtain ⟨q, p, hq, hp2, rfl⟩ := List.getElem?_zipWith_eq_some.1 hj
  exact h p (List.mem_of_getElem? hp2)

structure A3 (wb W3 : World) (n1 r a : Nat) (A6 : Option Addr) (c6 : Nat) (qs : List S23) (ps : List (Value × List Int)) (W : World) (j : Nat) : Prop where
  all : IsAll W3.heap.size W a ps 0
  rows : (Kd.raw 4).R 46 W n1 (fun k => k ≠ r) (.slice A6 qs.length c6) (rowsAt qs ps j)
  bel : Below wb.heap.size wb W
theorem A3.below {wb W3 W W' : World} {n1 r a c6 : Nat} {A6 : Option Addr} {qs : List S23} {ps : List (Value × List Int)} {j : Nat} (h : A3 wb W3 n1 r a A6 c6 qs ps W j) (hr : r < W3.heap.size) (hb : Below W.heap.size W W') : A3 wb W3 n1 r a A6 c6 qs ps W' j :=
  ⟨h.all.keep (KeepBut.of_below hb r none) hr, Kd.R_below h.rows hb, below_step h.bel hb⟩
theorem A3.row {wb W3 W : World} {n1 r a b6 c6 : Nat} {qs : List S23} {ps : List (Value × List Int)} {j : Nat} (h : A3 wb W3 n1 r a (some ⟨b6, 0, none⟩) c6 qs ps W j) (hl : ps.length = qs.length) (hj : j < qs.length) (i : Int) (hi : i.toNat = j) (h0 : 0 ≤ i) (h1 : i < qs.length) :
    (∀ m u, (rowq qs[j])[m]? = some u → W.cell? ⟨b6, i.toNat * 4 + m, none⟩ = some u) ∧ W.frozen? ⟨b6, i.toNat * 4 + 3, none⟩ = false := by
  obtain ⟨c, hcl, hM, hcc, hfr⟩ := Kd.R_elem h.rows [] i h0 h1
  have hcq : c = rowq qs[j] := by
    have h2 : c = (rowsAt qs ps j).getD i.toNat [] := hM.1
    rw [hi, rowsAt_get qs ps hl j hj] at h2
    exact h2
  subst hcq
  exact ⟨hcc, hfr 3⟩
theorem A3.put {wb W3 W : World} {n1 r a b6 c6 : Nat} {qs : List S23} {ps : List (Value × List Int)} {j : Nat} (h : A3 wb W3 n1 r a (some ⟨b6, 0, none⟩) c6 qs ps W j) (hl : ps.length = qs.length) (hj : j < qs.length) (hj2 : j < ps.length) (hb : wb.heap.size ≤ b6) (hb6 : b6 < W3.heap.size) (hr : b6 ≠ r) (i : Int) (hi : i.toNat = j) (h0 : 0 ≤ i) (h1 : i < qs.length) :
    A3 wb W3 n1 r a (some ⟨b6, 0, none⟩) c6 qs ps (W.setCell ⟨b6, i.toNat * 4 + 3, none⟩ ps[j].1) (j + 1) := by
  obtain ⟨A', c', e', hc', hFp⟩ := h.all.2.2 ps[j] (List.getElem_mem hj2)
  refine ⟨h.all.keep ((KeepBut.refl W b6 none).set_ _ _) hb6, ?_, h.bel.setCell (p := ⟨b6, _, none⟩) hb _⟩
  obtain ⟨c, hcl, hM, hcc, hfr⟩ := Kd.R_elem h.rows [] i h0 h1
  have hcq : c = rowq qs[j] := by
    have h2 : c = (rowsAt qs ps j).getD i.toNat [] := hM.1
    rw [hi, rowsAt_get qs ps hl j hj] at h2
    exact h2
  subst hcq
  have h2 := (Kd.R_seg h.rows i h0 h1 (c := rowq qs[j]) (seg := [ps[j].1]) (j := 3) (x' := rowv qs[j] ps[j].1) (okp := fun _ => False) hcl hcc (show 3 + 1 ≤ 4 by decide) (by
    refine ⟨rfl, rfl, ?_⟩
    intro u hu
    rw [e'] at hu
    simp [rowq] at hu
    rcases hu with rfl | rfl | rfl | rfl <;> rfl) (fun _ hk => hk.elim)).1
  have h3 := rowsAt_set qs ps hl j hj hj2
  rw [hi] at h2
  rw [h3] at h2
  rw [hi]
  exact h2

theorem A2.drew {wb W4 W : World} {r a : Nat} {b S : List Int} {ps : List (Value × List Int)} {v : Value} {xs : List Int} {k : Nat} (h : A2 wb W4 r a b S W ps v xs k) : A2 wb W4 r a b S W.drew ps v xs k :=
  ⟨h.all.below (below_drew1 (Below.refl _ _)), h.rd.below (below_drew1 (Below.refl _ _)), h.bd, h.bx, below_step h.bel (below_drew1 (Below.refl _ _)), h.kp⟩
theorem A2.more {wb W4 W W5 w6 : World} {r a : Nat} {b S : List Int} {ps : List (Value × List Int)} {v v6 : Value} {xs : List Int} {k : Nat} {y : Int} (h : A2 wb W4 r a b S W ps v xs k) (hr : r < W4.heap.size) (hw : wb.heap.size ≤ W4.heap.size)
    (hrd : RdAt wb W5 r b (S ++ ticksB xs ++ numB y)) (hb5 : Below wb.heap.size wb W5) (hk5 : KeepBut W W5 r none) (y0 : 0 ≤ y) (y1 : y ≤ 4611686018427387904)
    (hR : Kd.R (Kd.int .i64) 3 w6 W4.heap.size (fun q => q ≠ a) v6 (xs ++ [y])) (hb6 : Below W4.heap.size W5 w6) (hg : W5.grownBy w6 v.ownBlock) (hat : v6.ownBlock = v.ownBlock ∨ ∃ b, v6.ownBlock = some b ∧ W5.heap.size ≤ b) :
    A2 wb W4 r a b S (w6.setCell ⟨a, ps.length, none⟩ v6) ps v6 (xs ++ [y]) k := by
  have hall := h.all.keep hk5 hr
  have hba := Kd.R_base hall.2.2.1
  refine ⟨hall.more hg hat hR, ?_, h.bd, ?_, ?_, ?_⟩
  · rw [ticksB_more, ← List.append_assoc]
    refine (hrd.grown hg (fun he => ?_)).far (by have := hall.2.1; simp; omega) v6
    have := hba r he.symm
    omega
  · intro z hz
    rcases List.mem_append.1 hz with hz | hz
    · exact h.bx z hz
    · rw [List.mem_singleton] at hz
      rw [hz]
      exact ⟨y0, y1⟩
  · exact (hb5.trans (hb6.mono hw)).setCell (p := ⟨a, ps.length, none⟩) (by have := hall.2.1; simp; omega) v6
  · refine keep_far ((h.kp.trans hk5 (.inl rfl)).trans (KeepBut.of_grown hg r) ?_) (p := ⟨a, ps.length, none⟩) hall.2.1 v6
    cases hv : v.ownBlock with
    | none => exact .inl rfl
    | some q => exact .inr ⟨q, rfl, hba q hv⟩

/-- What Load leaves. -/
def LoadP (base g : Nat) (qs : List S23) (b : List Int) (w w' : World) (er : Int) : Prop :=
  if er = 0 then Below base w w' ∧ ∃ l' t', RdG w' g l' t' ∧ putB l' t' = b ∧ l'.length = qs.length ∧ (∀ x ∈ l', Tk x.f1) ∧ 0 ≤ t' ∧ t' ≤ 4611686018427387904 else Below w.heap.size w w'

theorem info24 : (Tryd.prog.info? 24).map (fun i => (i.zero, i.size, i.bytes)) = some (some nilV, 1, 24) := by kernel_rfl
theorem make60 (W : World) (n : Nat) (hn : n ≤ 64) : (Instr.makeSlice 60 (.int .i64 (n : Int)) (.int .i64 (n : Int))).run Tryd.prog W = .ok (.slice (some ⟨W.heap.size, 0, none⟩) n n) (W.alloc (.cells (Array.replicate n nilV) 24)) := by
  obtain ⟨i0, hi, hzz⟩ := Option.map_eq_some_iff.1 info24
  simp only [Prod.mk.injEq] at hzz
  obtain ⟨hz0, hz1, hz2⟩ := hzz
  have hr := run_make (P := Tryd.prog) W 60 24 i0 nilV (by rfl) hi hz0 .i64 .i64 (n : Int) (n : Int) (by omega) (by omega) (by rw [hz2]; omega) (by omega)
  rw [hz1] at hr
  rw [hr]
  simp only [Int.toNat_natCast, Nat.mul_one]
  have h2 : ∀ m : Nat, madeCells nilV.cells m = Array.replicate m nilV := fun m => by
    apply Array.ext
    · simp [madeCells]
    · intro i h3 h4
      simp [madeCells, nilV, Value.cells, Nat.mod_one]
  rw [h2]

theorem clone_row2 (A0 : Option Addr) (c0 : Nat) (qs : List S23) (w : World) (hr0 : (Kd.raw 4).C w A0 (qs.map rowq).length (qs.map rowq)) (hl : qs.length < 1000000) :
    Calls Tryd.prog 21 #[.slice A0 qs.length c0] w fun e w' => ∃ v0_ : Value, e = .returned (v0_) ∧ (Kd.raw 4).R 46 w' w.heap.size (fun _ => True) v0_ (qs.map rowq) ∧ Below w.heap.size w w' := by
  have h := clone_row.calls A0 c0 qs w hr0 hl
  rwa [List.length_map] at h

set_option maxRecDepth 100000 in
set_option maxHeartbeats 4000000 in
theorem quota_Load.calls (base g : Nat) (qs : List S23) (A : Option Addr) (c : Nat) (b : List Int) (w : World) (hN : IsN base w g qs) (hC : Kd.C (Kd.int .u8) w A b.length b) (hc : b.length ≤ c) (hB : BB b) (hl : b.length ≤ 300) (hq : qs.length ≤ 64) :
    Calls Tryd.prog 13 #[.pointer (some ⟨g, 0, none⟩), .slice A b.length c] w fun e w' => ∃ er, e = .returned (.int .i64 er) ∧ LoadP base g qs b w w' er := by
  obtain ⟨v0, hg0, hgb, hR0⟩ := hN
  obtain ⟨Aq, c2, rfl, hc2, hC2⟩ := Kd.R_reads hR0
  have HG := Aside0.mk hg0
  have HGB := Aside0.mk hgb
  have HC := Aside0.mk hC
  have HCc := Aside0.mk hc
  have HC2 := Aside0.mk hC2
  have HBB := Aside0.mk hB
  have HL := Aside0.mk hl
  have HQ := Aside0.mk hq
  clear hg0 hgb hC hc hC2 hB hl hq hR0 hc2
  go_enter Tryd.func13, Tryd.ntmps13
  go_upto_region 2 with (go_at_call 20; refine (new_rd A c b _ HC.out HCc.out HL.out).mono ?_; rintro e W1 ⟨r, wb, rfl, hrd, hb1, hbw, hrl, hrg⟩; have HRD1 := Aside0.mk hrd; have HB1 := Aside0.mk hb1; have HBW := Aside0.mk hbw; have HRL := Aside0.mk hrl; have HRG := Aside0.mk hrg; clear hrd hb1 hbw hrl hrg)
  have HBW1 := Aside0.mk (below_step HBW.out HB1.out)
  have y0 : W1.cell? ⟨g, 0, none⟩ = some (.slice Aq (qs.map rowq).length c2) := (blk_cell (blk_below HG.out HBW1.out) 0).trans rfl
  go_upto_region 3 with (go_at_call 21; refine (clone_row2 Aq c2 qs _ (Kd.C_below HC2.out HBW1.out) (by have := HQ.out; omega)).mono ?_; rintro e W2 ⟨v6, rfl, hr6, hb⟩; have HR6 := Aside0.mk (Kd.R_mono (Kd.R_bound hr6) (ok' := fun k => k ≠ r) (fun k hk => by have := hk.2.1; have := HRL.out; omega)); have HRD2 := Aside0.mk (HRD1.out.below hb); have HB2 := Aside0.mk (below_step HB1.out hb); have HS2 := Aside0.mk hb.size; clear hr6 hb y0)
  go_upto_region 4 with (go_at_call 22; refine (count_rd wb _ r b [] 64 HBB.out HRD2.out HB2.out (by decide) (by decide)).mono ?_; rintro e W3 ⟨n, rfl, hrd, hb, hk, hn⟩; have HRD3 := Aside0.mk hrd; have HB3 := Aside0.mk hb; have HR63 := Aside0.mk (Kd.R_keep HR6.out hk (fun k hk => hk)); have HS3 := Aside0.mk (Nat.le_trans HS2.out hk.1); have HN := Aside0.mk (show n ≤ 64 by omega); clear hrd hb hk hn HR6 HRD2 HB2)
  obtain ⟨A6, c6, e6, hc6, _⟩ := Kd.R_reads HR63.out
  rw [List.length_map] at e6 hc6
  subst e6
  have HC6 := Aside0.mk hc6
  clear hc6
  have HRL3 := Aside0.mk (Nat.lt_of_lt_of_le HRL.out HS3.out)
  have HW3 := Aside0.mk (show wb.heap.size ≤ W3.heap.size from HB3.out.size)
  have hmk := make60 W3 n HN.out
  go_upto_region 5 with ((with_reducible refine gate_dst (N := 24) rfl ?_); refine event_run (w1 := W3.alloc (.cells (Array.replicate n nilV) 24)) (v := .slice (some ⟨W3.heap.size, 0, none⟩) n n) ?hg ?hr ?_; (case hg => rfl); (case hr => first | (go_simp; rw [hmk]; done) | (go_simp; rw [hmk]; rfl) | (trace_state; sorry)))
  have HAA := Aside0.mk (show A1 wb W3 r W3.heap.size b (numB n) (W3.alloc (.cells (Array.replicate n nilV) 24)) [] n from ⟨by have h := IsAll.make W3 n; simp only [List.toArray_replicate] at h; exact h, by have h := HRD3.out.below (below_alloc (Below.refl _ _) (.cells (Array.replicate n nilV) 24)); rw [List.nil_append] at h; rw [show psB [] = [] from rfl, List.append_nil]; exact h, fun p hp => (by cases hp), below_step HB3.out (below_alloc (Below.refl _ _) _), KeepBut.of_below (below_alloc (Below.refl _ _) _) _ _⟩)
  have HR64 := Aside0.mk (Kd.R_below HR63.out (below_alloc (Below.refl _ _) (.cells (Array.replicate n nilV) 24)))
  generalize W3.alloc (.cells (Array.replicate n nilV) 24) = W4 at *
  obtain ⟨a, ha⟩ : ∃ a, W3.heap.size = a := ⟨_, rfl⟩
  have HA := Aside0.mk ha
  have HA1 := Aside0.mk (show A1 wb W3 r a b (numB n) W4 [] n by rw [← ha]; exact HAA.out)
  rw [ha]
  clear hmk ha HAA
  go_wp2
  go_loopw [27] (fun v27 W => ∃ (ps : List (Value × List Int)) (k : Nat), ps.length + k = n ∧ v27 = .int .i64 (ps.length : Int) ∧ Aside0 (A1 wb W3 r a b (numB n) W ps k)) (fun v27 _ => n - (intOf v27).toNat)
  case atStart => exact ⟨[], n, by simp, rfl, HA1⟩
  case round =>
    clear HA1
    obtain ⟨ps, k, hk, rfl, HA1⟩ := hrel
    cases k with
    | zero =>
      obtain rfl : ps.length = n := by omega
      clear hk
      have HR6W := Aside0.mk (Kd.R_keep HR63.out HA1.out.kp (fun k hk => hk))
      go_upto_region 14 with (go_at_call 23; refine (num_rd wb _ r b _ HBB.out HA1.out.rd HA1.out.bel).mono ?_; rintro e W5 ⟨y, rfl, hrd, hb, hkp, hy0, hy1⟩; have HRD5 := Aside0.mk hrd; have HB5 := Aside0.mk hb; have HY := Aside0.mk (And.intro hy0 hy1); have HALL5 := Aside0.mk (HA1.out.all.keep hkp HRL3.out); have HR65 := Aside0.mk (Kd.R_keep HR6W.out hkp (fun k hk => hk)); clear hrd hb hkp hy0 hy1)
      obtain ⟨p, fa, fe, hi, ho⟩ := HRD5.out
      obtain ⟨t, p', fa', fe', hf, _, h1, h2⟩ := end_over ho 0
      have HI := Aside0.mk hi
      have HF := Aside0.mk hf
      clear hi hf ho HRD5
      cases t with
      | false =>
        have HNE := Aside0.mk (h2 rfl)
        clear h1 h2
        go_wp2_with (first | (go_at_call 24; (refine (field_Reader_End.calls 1 r b p fa fe false p' fa' fe' wb _ HI.out HB5.out HF.out).mono ?_; rintro e W6 ⟨rfl, hi, hb, hk⟩; have HI6 := Aside0.mk hi; have HB6 := Aside0.mk hb; clear hi hb hk)) | (go_at_call 25; (refine (field_Reader_Err.calls r b p' fa' fe' fa' fe' p' fa' fe' wb _ HI6.out HB6.out rfl).mono ?_; rintro e W7 ⟨rfl, hi, hb, hk⟩; have HB7 := Aside0.mk hb; clear hi hb hk)))
        go_ret
        exact ⟨fe', rfl, by unfold LoadP; rw [if_neg HNE.out]; exact below_step HBW.out HB7.out⟩
      | true =>
        have HBE := Aside0.mk (h1 rfl).1
        clear h1 h2
        by_cases hn : (ps.length : Int) = (qs.length : Int)
        rotate_left
        · have hdn : ((ps.length : Int) != (qs.length : Int)) = true := bne_iff_ne.mpr hn
          clear hn
          go_wp2_with (first | (go_at_call 24; (refine (field_Reader_End.calls 1 r b p fa fe true p' fa' fe' wb _ HI.out HB5.out HF.out).mono ?_; rintro e W6 ⟨rfl, hi, hb, hk⟩; have HB6 := Aside0.mk hb; clear hi hb hk)))
          go_ret
          exact ⟨3, rfl, by unfold LoadP; rw [if_neg (by decide)]; exact below_step HBW.out HB6.out⟩
        have hdn : ((ps.length : Int) != (qs.length : Int)) = false := by rw [hn]; exact bne_self_eq_false _
        have HPQ := Aside0.mk (show ps.length = qs.length by omega)
        clear hn
        by_cases hg : y ≤ 1099511627776
        rotate_left
        · have HGF := Aside0.mk (show tick_Good.f y = some false by unfold tick_Good.f; rw [if_pos HY.out.1, decide_eq_false hg])
          clear hg
          go_wp2_with (first | (go_at_call 24; (refine (field_Reader_End.calls 1 r b p fa fe true p' fa' fe' wb _ HI.out HB5.out HF.out).mono ?_; rintro e W6 ⟨rfl, hi, hb, hk⟩; have HB6 := Aside0.mk hb; clear hi hb hk)) | (go_at_call 26; with_reducible refine (tick_Good.calls y false _ HGF.out).mono ?_; rintro e W7 ⟨rfl, hd⟩; have HB7 := Aside0.mk (below_step HB6.out hd.below); clear hd))
          go_ret
          exact ⟨3, rfl, by unfold LoadP; rw [if_neg (by decide)]; exact below_step HBW.out HB7.out⟩
        have HGF := Aside0.mk (show tick_Good.f y = some true by unfold tick_Good.f; rw [if_pos HY.out.1, decide_eq_true hg])
        clear hg
        go_wp2_with (first | (go_at_call 24; (refine (field_Reader_End.calls 1 r b p fa fe true p' fa' fe' wb _ HI.out HB5.out HF.out).mono ?_; rintro e W6 ⟨rfl, hi, hb, hk⟩; have HB6 := Aside0.mk hb; have HALL6 := Aside0.mk (HALL5.out.keep hk HRL3.out); have HR66 := Aside0.mk (Kd.R_keep HR65.out hk (fun k hk => hk)); clear hi hb hk)) | (go_at_call 26; with_reducible refine (tick_Good.calls y true _ HGF.out).mono ?_; rintro e W7 ⟨rfl, hd⟩; have HB7 := Aside0.mk (below_step HB6.out hd.below); have HALL7 := Aside0.mk (HALL6.out.keep (KeepBut.of_below hd.below r none) HRL3.out); have HR67 := Aside0.mk (Kd.R_below HR66.out hd.below); clear hd))
        have HA3 := Aside0.mk (show A3 wb W3 W1.heap.size r a A6 c6 qs ps W7 0 from ⟨HALL7.out, by rw [rowsAt_zero]; exact HR67.out, HB7.out⟩)
        have HBD := Aside0.mk HA1.out.bd
        clear HALL7 HR67 HB7 HALL6 HR66 HB6 HALL5 HR65 HB5 HF HI HR6W HA1
        go_loopw [69] (fun v69 W => ∃ j : Nat, j ≤ qs.length ∧ v69 = .int .i64 (j : Int) ∧ Aside0 (A3 wb W3 W1.heap.size r a A6 c6 qs ps W j)) (fun v69 _ => qs.length - (intOf v69).toNat)
        case atStart => exact ⟨0, Nat.zero_le _, rfl, HA3⟩
        case round =>
          clear HA3
          obtain ⟨j, hj, rfl, HA3⟩ := hrel
          by_cases hlt : j < qs.length
          · obtain ⟨b6, cap6, e6, hb6, hb6l, _⟩ := Kd.R_form HR63.out (by rw [List.length_map]; omega)
            obtain rfl : A6 = some ⟨b6, 0, none⟩ := by injection e6
            have HB6 := Aside0.mk (And.intro hb6 hb6l)
            obtain ⟨i, hi⟩ : ∃ i : Int, (j : Int) = i := ⟨_, rfl⟩
            have HI := Aside0.mk hi
            have HIT := Aside0.mk (show i.toNat = j by omega)
            have hp1 : (0 ≤ i) = True := eq_true (by omega)
            have hq1 : (i < (qs.length : Int)) = True := eq_true (by omega)
            have hq2 : (i < (ps.length : Int)) = True := eq_true (by have := HPQ.out; omega)
            have hd1 : decide (i < (qs.length : Int)) = true := decide_eq_true (by omega)
            have HK := Aside0.mk (show wrap64 (i + 1) = ((j + 1 : Nat) : Int) by unfold wrap64; have := HQ.out; omega)
            have hjp : j < ps.length := by have := HPQ.out; omega
            have HLT := Aside0.mk (And.intro hlt hjp)
            obtain ⟨Ax, cx, ex, hcx, hFx⟩ := HA3.out.all.2.2 ps[j] (List.getElem_mem hjp)
            have hrow := HA3.out.row HPQ.out hlt i HIT.out (by omega) (by omega)
            have y0 : wr.cell? ⟨a, i.toNat, none⟩ = some (.slice Ax ps[j].2.length cx) := by rw [HIT.out, ← ex]; exact HA3.out.all.cell j hjp
            have HPUT := Aside0.mk (fun W (h : A3 wb W3 W1.heap.size r a (some ⟨b6, 0, none⟩) c6 qs ps W j) => h.put HPQ.out hlt hjp (Nat.le_trans (Nat.le_trans HRG.out (Nat.le_of_lt HRL.out)) hb6) hb6l (by have := HRL.out; omega) i HIT.out (by omega) (by omega))
            have HROW := Aside0.mk (fun W (h : A3 wb W3 W1.heap.size r a (some ⟨b6, 0, none⟩) c6 qs ps W j) => h.row HPQ.out hlt i HIT.out (by omega) (by omega))
            have HCELL := Aside0.mk (fun W (h : A3 wb W3 W1.heap.size r a (some ⟨b6, 0, none⟩) c6 qs ps W j) => h.all.cell j hjp)
            rw [ex] at HPUT HCELL
            have HFX := Aside0.mk hFx
            have HCX := Aside0.mk hcx
            have HXL := Aside0.mk (show ps[j].2.length < 1000000 by have := (HBD.out ps[j] (List.getElem_mem hjp)).1; omega)
            generalize ps[j].2 = xs at *
            generalize qs[j] = q at *
            have x0 : wr.cell? ⟨b6, i.toNat * 4, none⟩ = some (.string q.f0) := hrow.1 0 _ rfl
            have x1 : wr.cell? ⟨b6, i.toNat * 4 + 1, none⟩ = some (.int .i64 q.f1) := hrow.1 1 _ rfl
            have x2 : wr.cell? ⟨b6, i.toNat * 4 + 2, none⟩ = some (.int .i64 q.f2) := hrow.1 2 _ rfl
            have x3 : wr.cell? ⟨b6, i.toNat * 4 + 3, none⟩ = some (.slice none 0 0) := hrow.1 3 _ rfl
            rw [hi]
            clear hi hlt hj hrow ex hcx hFx hjp e6 hb6 hb6l
            go_upto_region 22 with (fail)
            refine start_ (n := 11) (S := fun w' => w'.cell? ⟨b6, i.toNat * 4, none⟩ = some (.string q.f0) ∧ w'.cell? ⟨b6, i.toNat * 4 + 1, none⟩ = some (.int .i64 q.f1) ∧ w'.cell? ⟨b6, i.toNat * 4 + 2, none⟩ = some (.int .i64 q.f2) ∧ w'.cell? ⟨b6, i.toNat * 4 + 3, none⟩ = some (.slice none 0 0) ∧ w'.cell? ⟨a, i.toNat, none⟩ = some (.slice Ax xs.length cx)) (ds := [9]) #[false, false, false, false, false, false, false, false, false, false, false] (by kernel_rfl) rfl rfl ⟨x0, x1, x2, x3, y0⟩ (fun hHeld => ?_)
            refine pure_ (i := 0) (N := some 72) (v := ?_) (a' := ?_) #[true, false, false, false, false, false, false, false, false, false, false] rfl rfl (by kernel_rfl) (fun _ _ _ h => h) (Or.inl ⟨by rfl, ?_⟩) ?_ ?_
            rotate_left
            · intro w'
              go_simp
              with_reducible rfl
            rotate_left
            · simp only [Act.put, List.setIfInBounds_toArray, List.set_cons_zero, List.set_cons_succ, i64_w, i32_w]
              rfl
            refine pure_ (i := 1) (N := some 73) (v := ?_) (a' := ?_) #[true, true, false, false, false, false, false, false, false, false, false] rfl rfl (by kernel_rfl) (fun _ _ _ h => h) (Or.inl ⟨by rfl, ?_⟩) ?_ ?_
            rotate_left
            · intro w'
              go_simp
              with_reducible rfl
            rotate_left
            · simp only [Act.put, List.setIfInBounds_toArray, List.set_cons_zero, List.set_cons_succ, i64_w, i32_w]
              rfl
            refine pure_ (i := 2) (N := some 74) (v := ?_) (a' := ?_) #[true, true, true, false, false, false, false, false, false, false, false] rfl rfl (by kernel_rfl) (fun _ _ _ h => h) (Or.inl ⟨by rfl, ?_⟩) ?_ ?_
            rotate_left
            · intro w'
              go_simp
              with_reducible rfl
            rotate_left
            · simp only [Act.put, List.setIfInBounds_toArray, List.set_cons_zero, List.set_cons_succ, i64_w, i32_w]
              rfl
            refine pure_ (i := 4) (N := some 76) (v := ?_) (a' := ?_) #[true, true, true, false, true, false, false, false, false, false, false] rfl rfl (by kernel_rfl) (fun _ _ _ h => h) (Or.inl ⟨by rfl, ?_⟩) ?_ ?_
            rotate_left
            · intro w'
              go_simp
              with_reducible rfl
            rotate_left
            · simp only [Act.put, List.setIfInBounds_toArray, List.set_cons_zero, List.set_cons_succ, i64_w, i32_w]
              rfl
            refine pure_ (i := 5) (N := some 77) (v := ?_) (a' := ?_) #[true, true, true, false, true, true, false, false, false, false, false] rfl rfl (by kernel_rfl) (fun _ _ _ h => h) (Or.inl ⟨by rfl, ?_⟩) ?_ ?_
            rotate_left
            · intro w'
              go_simp
              with_reducible rfl
            rotate_left
            · simp only [Act.put, List.setIfInBounds_toArray, List.set_cons_zero, List.set_cons_succ, i64_w, i32_w]
              rfl
            refine pure_ (i := 6) (N := some 78) (v := ?_) (a' := ?_) #[true, true, true, false, true, true, true, false, false, false, false] rfl rfl (by kernel_rfl) (fun _ _ _ h => h) (Or.inl ⟨by rfl, ?_⟩) ?_ ?_
            rotate_left
            · intro w'
              go_simp
              with_reducible rfl
            rotate_left
            · simp only [Act.put, List.setIfInBounds_toArray, List.set_cons_zero, List.set_cons_succ, i64_w, i32_w]
              rfl
            refine pure_ (i := 8) (N := some 80) (v := ?_) (a' := ?_) #[true, true, true, false, true, true, true, false, true, false, false] rfl rfl (by kernel_rfl) (fun _ _ _ h => h) (Or.inl ⟨by rfl, ?_⟩) ?_ ?_
            rotate_left
            · intro w'
              go_simp
              with_reducible rfl
            rotate_left
            · simp only [Act.put, List.setIfInBounds_toArray, List.set_cons_zero, List.set_cons_succ, i64_w, i32_w]
              rfl
            refine take_ (i := 3) (N := some 75) (v := ?_) (a' := ?_) #[true, true, true, true, true, true, true, false, true, false, false] rfl rfl (by kernel_rfl) (fun _ _ _ h => h) (Or.inl ⟨by rfl, ?_⟩) hHeld ?_ ?_
            rotate_left
            · rintro w' ⟨s0, s1, s2, s3, s4⟩
              go_simp
              with_reducible rfl
            rotate_left
            · simp only [Act.put, List.setIfInBounds_toArray, List.set_cons_zero, List.set_cons_succ, i64_w, i32_w]
              rfl
            refine take_ (i := 7) (N := some 79) (v := ?_) (a' := ?_) #[true, true, true, true, true, true, true, true, true, false, false] rfl rfl (by kernel_rfl) (fun _ _ _ h => h) (Or.inl ⟨by rfl, ?_⟩) hHeld ?_ ?_
            rotate_left
            · rintro w' ⟨s0, s1, s2, s3, s4⟩
              go_simp
              with_reducible rfl
            rotate_left
            · simp only [Act.put, List.setIfInBounds_toArray, List.set_cons_zero, List.set_cons_succ, i64_w, i32_w]
              rfl
            refine last_ (i := 9) (N := some 81) #[true, true, true, true, true, true, true, true, true, true, false] rfl rfl (by kernel_rfl) (by decide) (fun K hK => ?_)
            refine goes_ Tryd.func27 (by kernel_rfl) rfl #[.agg #[.string q.f0, .int .i64 q.f1, .int .i64 q.f2, .slice none 0 0], .slice Ax xs.length cx, .int .i64 y] (by rfl) rfl rfl (by simp only [List.map_toArray, List.map_cons, List.map_nil]; rfl) ?_
            with_reducible refine (row_fits.calls q (.slice none 0 0) none 0 0 rfl xs Ax cx y _ (Kd.C_below (Kd.F_now HFX.out) (below_drew1 (Below.refl _ _))) HCX.out HXL.out).mono ?_
            rintro e W9 ⟨bb, rfl, hb9⟩
            refine ⟨_, rfl, ?_⟩
            have HA9 := Aside0.mk (HA3.out.below HRL3.out (below_step (below_drew1 (Below.refl _ _)) hb9))
            clear hb9
            refine hK.out _ _ ?_
            clear hK K
            refine norm_ (a' := ?_) ?_ ?_
            rotate_left
            · show Act.put _ (some 81) _ = _
              simp only [Act.put, List.setIfInBounds_toArray, List.set_cons_zero, List.set_cons_succ, i64_w, i32_w]
              rfl
            refine pure_ (i := 10) (N := some 82) (v := ?_) (a' := ?_) #[true, true, true, true, true, true, true, true, true, true, true] rfl rfl (by kernel_rfl) (fun _ _ _ h => h) (Or.inl ⟨by rfl, ?_⟩) ?_ ?_
            rotate_left
            · intro w'
              go_simp
              with_reducible rfl
            rotate_left
            · simp only [Act.put, List.setIfInBounds_toArray, List.set_cons_zero, List.set_cons_succ, i64_w, i32_w]
              rfl
            refine done_ (by kernel_rfl) ?_
            clear hHeld x0 x1 x2 x3 y0 HA3
            cases bb with
            | false =>
              go_wp2
              go_ret
              exact ⟨3, rfl, by unfold LoadP; rw [if_neg (by decide)]; exact below_step HBW.out HA9.out.bel⟩
            | true =>
              have hrow := HROW.out _ HA9.out
              have y0 := HCELL.out _ HA9.out
              rw [← HIT.out] at y0
              have x3 : W9.cell? ⟨b6, i.toNat * 4 + 3, none⟩ = some (.slice none 0 0) := hrow.1 3 _ rfl
              have fz := hrow.2
              have HAZ := Aside0.mk (HPUT.out _ HA9.out)
              clear hrow
              go_wp2
              go_roundw
              case rel => exact ⟨j + 1, by have := HLT.out; omega, by rw [HK.out], HAZ⟩
              case measure => have := HI.out; have := HLT.out; simp [intOf, HK.out]; omega
          · have hjl : j = qs.length := by omega
            subst hjl
            have hd1 : decide ((qs.length : Int) < (qs.length : Int)) = false := decide_eq_false (by omega)
            have hR := HA3.out.rows
            rw [rowsAt_all qs ps HPQ.out] at hR
            have HBWr := Aside0.mk (below_step HBW.out HA3.out.bel)
            have hg0 := blk_below HG.out HBWr.out
            have HRF := Aside0.mk (Kd.R_set (Kd.R_set hR hg0 (by decide) 0 (.slice A6 qs.length c6)) (blk_put hg0 0 (.slice A6 qs.length c6) (cs' := #[.slice A6 qs.length c6, .int .i64 0]) rfl) (by decide) 1 (.int .i64 y))
            have HGF := Aside0.mk (blk_put (blk_put hg0 0 (.slice A6 qs.length c6) (cs' := #[.slice A6 qs.length c6, .int .i64 0]) rfl) 1 (.int .i64 y) (cs' := #[.slice A6 qs.length c6, .int .i64 y]) rfl)
            have y0 : wr.cell? ⟨g, 0, none⟩ = some (.slice Aq (qs.map rowq).length c2) := (blk_cell hg0 0).trans rfl
            have y1 : wr.cell? ⟨g, 1, none⟩ = some (.int .i64 0) := (blk_cell hg0 1).trans rfl
            have fz0 := blk_frozen hg0 0
            have fz1 := blk_frozen hg0 1
            clear hR hg0
            go_wp2
            go_ret
            have hbs : base ≤ w.heap.size := Nat.le_trans HGB.out (Nat.le_of_lt (blk_lt HG.out))
            have hgn : g < W3.heap.size := Nat.lt_of_lt_of_le (blk_lt HG.out) (Nat.le_trans HBW.out.size HW3.out)
            have hB1 := (((HBWr.out.mono hbs).setCell (p := ⟨g, 0, none⟩) HGB.out (.slice A6 qs.length c6)).setCell (p := ⟨g, 1, none⟩) HGB.out (.int .i64 y))
            have hC := (Kd.R_reads' HRF.out).2.2
            have hF : ∀ p ∈ ps, RowF ((wr.setCell ⟨g, 0, none⟩ (.slice A6 qs.length c6)).setCell ⟨g, 1, none⟩ (.int .i64 y)) (fun q => W3.heap.size ≤ q ∧ q ≠ a) p := fun p hp =>
              (HA3.out.all.2.2 p hp).step (fun q hq _ => by
                have hne : q ≠ g := by have := hq.1; omega
                rw [Below.heap_setCell _ _ _ q hne, Below.heap_setCell _ _ _ q hne])
            refine ⟨0, rfl, ?_⟩
            unfold LoadP
            rw [if_pos rfl]
            refine ⟨hB1, zipL qs ps, y, ⟨A6, c6, ?_, zip_C46 hC HPQ.out hF, by rw [zipL_len _ _ HPQ.out]; exact HC6.out⟩, ?_, zipL_len _ _ HPQ.out, zipL_Tk HBD.out, HY.out.1, HY.out.2⟩
            · rw [zipL_len _ _ HPQ.out]
              exact HGF.out
            · unfold putB
              rw [zipL_len _ _ HPQ.out, rowsB_zip _ _ HPQ.out, HBE.out, HPQ.out]
    | succ k =>
      obtain ⟨i, hi⟩ : ∃ i : Int, (ps.length : Int) = i := ⟨_, rfl⟩
      have HI := Aside0.mk hi
      have HIT := Aside0.mk (show i.toNat = ps.length by omega)
      have hp1 : (0 ≤ i) = True := eq_true (by omega)
      have hq1 : (i < (n : Int)) = True := eq_true (by omega)
      have hd1 : decide (i < (n : Int)) = true := decide_eq_true (by omega)
      have HK := Aside0.mk (show wrap64 (i + 1) = ((ps.length + 1 : Nat) : Int) by unfold wrap64; have := HN.out; omega)
      have HKK := Aside0.mk hk
      rw [hi]
      clear hi hk
      go_wp2_with (go_at_call 22; (refine (count_rd wb _ r b _ 1000 HBB.out HA1.out.rd HA1.out.bel (by decide) (by decide)).mono ?_; rintro e W5 ⟨m, rfl, hrd, hb, hkp, hm⟩; have HM := Aside0.mk (show m ≤ 1000 by omega); have HA2 := Aside0.mk (show A2 wb W3 r a b (numB n ++ psB ps ++ numB m) W5 ps nilV [] k from ⟨(HA1.out.all.keep hkp HRL3.out).one, by rw [show ticksB [] = [] from rfl, List.append_nil]; exact hrd, HA1.out.bd, fun y hy => (by cases hy), hb, HA1.out.kp.trans hkp (.inl rfl)⟩); clear hrd hb hkp hm))
      go_loopw [32] (fun v32 W => ∃ (v : Value) (xs : List Int), xs.length ≤ m ∧ v32 = .int .i64 (xs.length : Int) ∧ Aside0 (A2 wb W3 r a b (numB n ++ psB ps ++ numB m) W ps v xs k)) (fun v32 _ => m - (intOf v32).toNat)
      case atStart => exact ⟨nilV, [], Nat.zero_le _, rfl, HA2⟩
      case round =>
        clear HA1 HA2
        obtain ⟨v, xs, hxs, rfl, HA2⟩ := hrel
        by_cases hlt : xs.length < m
        · obtain ⟨j, hj⟩ : ∃ j : Int, (xs.length : Int) = j := ⟨_, rfl⟩
          have HJ := Aside0.mk hj
          have hd2 : decide (j < (m : Int)) = true := decide_eq_true (by omega)
          have HJK := Aside0.mk (show wrap64 (j + 1) = ((xs.length + 1 : Nat) : Int) by unfold wrap64; have := HM.out; omega)
          have HXS := Aside0.mk hlt
          rw [hj]
          clear hj hlt hxs
          go_upto_region 10 with (fail)
          have HW := Aside0.mk HA2.out.drew
          have y0 : wr.cell? ⟨a, i.toNat, none⟩ = some v := by rw [HIT.out]; exact HA2.out.all.cell
          refine start_ (n := 12) (S := fun w' => w'.cell? ⟨a, i.toNat, none⟩ = some v) (ds := [11]) #[false, false, false, false, false, false, false, false, false, false, false, false] (by kernel_rfl) rfl rfl (y0) (fun hHeld => ?_)
          refine pure_ (i := 0) (N := some 34) (v := ?_) (a' := ?_) #[true, false, false, false, false, false, false, false, false, false, false, false] rfl rfl (by kernel_rfl) (fun _ _ _ h => h) (Or.inl ⟨by rfl, ?_⟩) ?_ ?_
          rotate_left
          · intro w'
            go_simp
            with_reducible rfl
          rotate_left
          · simp only [Act.put, List.setIfInBounds_toArray, List.set_cons_zero, List.set_cons_succ, i64_w, i32_w]
            rfl
          refine pure_ (i := 1) (N := some 35) (v := ?_) (a' := ?_) #[true, true, false, false, false, false, false, false, false, false, false, false] rfl rfl (by kernel_rfl) (fun _ _ _ h => h) (Or.inl ⟨by rfl, ?_⟩) ?_ ?_
          rotate_left
          · intro w'
            go_simp
            with_reducible rfl
          rotate_left
          · simp only [Act.put, List.setIfInBounds_toArray, List.set_cons_zero, List.set_cons_succ, i64_w, i32_w]
            rfl
          refine pure_ (i := 2) (N := some 36) (v := ?_) (a' := ?_) #[true, true, true, false, false, false, false, false, false, false, false, false] rfl rfl (by kernel_rfl) (fun _ _ _ h => h) (Or.inl ⟨by rfl, ?_⟩) ?_ ?_
          rotate_left
          · intro w'
            go_simp
            with_reducible rfl
          rotate_left
          · simp only [Act.put, List.setIfInBounds_toArray, List.set_cons_zero, List.set_cons_succ, i64_w, i32_w]
            rfl
          refine pure_ (i := 3) (N := some 37) (v := ?_) (a' := ?_) #[true, true, true, true, false, false, false, false, false, false, false, false] rfl rfl (by kernel_rfl) (fun _ _ _ h => h) (Or.inl ⟨by rfl, ?_⟩) ?_ ?_
          rotate_left
          · intro w'
            go_simp
            with_reducible rfl
          rotate_left
          · simp only [Act.put, List.setIfInBounds_toArray, List.set_cons_zero, List.set_cons_succ, i64_w, i32_w]
            rfl
          refine pure_ (i := 4) (N := some 38) (v := ?_) (a' := ?_) #[true, true, true, true, true, false, false, false, false, false, false, false] rfl rfl (by kernel_rfl) (fun _ _ _ h => h) (Or.inl ⟨by rfl, ?_⟩) ?_ ?_
          rotate_left
          · intro w'
            go_simp
            with_reducible rfl
          rotate_left
          · simp only [Act.put, List.setIfInBounds_toArray, List.set_cons_zero, List.set_cons_succ, i64_w, i32_w]
            rfl
          refine pure_ (i := 6) (N := some 40) (v := ?_) (a' := ?_) #[true, true, true, true, true, false, true, false, false, false, false, false] rfl rfl (by kernel_rfl) (fun _ _ _ h => h) (Or.inl ⟨by rfl, ?_⟩) ?_ ?_
          rotate_left
          · intro w'
            go_simp
            with_reducible rfl
          rotate_left
          · simp only [Act.put, List.setIfInBounds_toArray, List.set_cons_zero, List.set_cons_succ, i64_w, i32_w]
            rfl
          refine take_ (i := 5) (N := some 39) (v := ?_) (a' := ?_) #[true, true, true, true, true, true, true, false, false, false, false, false] rfl rfl (by kernel_rfl) (fun _ _ _ h => h) (Or.inl ⟨by rfl, ?_⟩) hHeld ?_ ?_
          rotate_left
          · intro w' s0
            go_simp
            with_reducible rfl
          rotate_left
          · simp only [Act.put, List.setIfInBounds_toArray, List.set_cons_zero, List.set_cons_succ, i64_w, i32_w]
            rfl
          refine one_ (i := 7) (N := some 41) #[true, true, true, true, true, true, true, true, false, false, false, false] rfl rfl (by kernel_rfl) (by decide) (fun K hK => ?_)
          refine goes_ Tryd.func23 (by kernel_rfl) rfl #[.pointer (some ⟨r, 0, none⟩)] (by rfl) rfl rfl (by simp only [List.map_toArray, List.map_cons, List.map_nil]; rfl) ?_
          with_reducible refine (num_rd wb _ r b _ HBB.out HW.out.rd HW.out.bel).mono ?_
          rintro e W5 ⟨y, rfl, hrd, hb, hkp, hy0, hy1⟩
          refine ⟨_, rfl, ?_⟩
          have HRD5 := Aside0.mk hrd
          have HB5 := Aside0.mk hb
          have HK5 := Aside0.mk hkp
          have HY := Aside0.mk (And.intro hy0 hy1)
          have HA5 := Aside0.mk (HW.out.all.keep hkp HRL3.out)
          have HAL := Aside0.mk (show Below W5.heap.size W5 (W5.alloc (.cells #[.int .i64 y] 3)) from below_alloc (Below.refl _ _) _)
          have y5 : W5.cell? ⟨a, i.toNat, none⟩ = some v := by rw [HIT.out]; exact HA5.out.cell
          clear hrd hb hkp hy0 hy1
          refine hK.out _ _ y5 (fun hHeld => ?_)
          clear hK K
          refine norm_ (a' := ?_) ?_ ?_
          rotate_left
          · show Act.put _ (some 41) _ = _
            simp only [Act.put, List.setIfInBounds_toArray, List.set_cons_zero, List.set_cons_succ, i64_w, i32_w]
            rfl
          refine one_ (i := 8) (N := some 42) #[true, true, true, true, true, true, true, true, true, false, false, false] rfl rfl (by kernel_rfl) (by decide) (fun K hK => ?_)
          refine value_ (w1 := ?_) (v := ?_) (by rfl) rfl ?_ ?_
          rotate_left 2
          · go_simp
            constructor
            · rfl
            · rfl
          refine hK.out _ _ ((HAL.out.cell (p := ⟨a, i.toNat, none⟩) (World.block_lt_of_cell? _ _ y5)).trans y5) (fun hHeld => ?_)
          clear hK K
          refine norm_ (a' := ?_) ?_ ?_
          rotate_left
          · show Act.put _ (some 42) _ = _
            simp only [Act.put, List.setIfInBounds_toArray, List.set_cons_zero, List.set_cons_succ, i64_w, i32_w]
            rfl
          refine one_ (i := 9) (N := some 43) #[true, true, true, true, true, true, true, true, true, true, false, false] rfl rfl (by kernel_rfl) (by decide) (fun K hK => ?_)
          refine Kd.R_append_step (Kd.int .i64) (w0 := W5) W3.heap.size (by rfl) (.tmp 39) (.tmp 42) 24 3 (.int .i64 0) 8 rfl (by rfl) info3 rfl (by decide) (by decide) v xs y [.int .i64 y] (fun q => q ≠ a) (fun _ => False) rfl rfl rfl (fun _ h => h.elim) (fun q hq => by have := blk_lt HA5.out.1; omega) HA5.out.2.2.1 (Below.refl _ _) (Nat.le_trans HA5.out.2.1 (Nat.le_of_lt (blk_lt HA5.out.1))) (by have := HXS.out; have := HM.out; omega) ?_
          intro v7 w7 hR7 hB7 hg7 hat7
          have y7 : w7.cell? ⟨a, i.toNat, none⟩ = some v := by rw [HIT.out]; refine (blk_cell (blk_grown HA5.out.1 hg7 (Kd.R_ne HA5.out.2.2.1 HA5.out.1 (by decide))) _).trans (by simp)
          have fz7 := blk_frozen (blk_grown HA5.out.1 hg7 (Kd.R_ne HA5.out.2.2.1 HA5.out.1 (by decide))) i.toNat
          have HA7 := Aside0.mk (show A2 wb W3 r a b (numB n ++ psB ps ++ numB m) (w7.setCell ⟨a, i.toNat, none⟩ v7) ps v7 (xs ++ [y]) k by rw [HIT.out]; exact HW.out.more HRL3.out HW3.out HRD5.out HB5.out HK5.out HY.out.1 HY.out.2 hR7 hB7 hg7 hat7)
          obtain ⟨A7, n7, c7, rfl⟩ : ∃ A n c, v7 = .slice A n c := by obtain ⟨A, c, e, _⟩ := Kd.R_reads hR7; exact ⟨A, _, c, e⟩
          clear hR7 hB7 hg7 hat7
          refine hK.out _ _ y7 (fun hHeld => ?_)
          clear hK K
          refine norm_ (a' := ?_) ?_ ?_
          rotate_left
          · show Act.put _ (some 43) _ = _
            simp only [Act.put, List.setIfInBounds_toArray, List.set_cons_zero, List.set_cons_succ, i64_w, i32_w]
            rfl
          refine pure_ (i := 10) (N := some 44) (v := ?_) (a' := ?_) #[true, true, true, true, true, true, true, true, true, true, true, false] rfl rfl (by kernel_rfl) (fun _ _ _ h => h) (Or.inl ⟨by rfl, ?_⟩) ?_ ?_
          rotate_left
          · intro w'
            go_simp
            with_reducible rfl
          rotate_left
          · simp only [Act.put, List.setIfInBounds_toArray, List.set_cons_zero, List.set_cons_succ, i64_w, i32_w]
            rfl
          refine last_ (i := 11) (N := none) #[true, true, true, true, true, true, true, true, true, true, true, true] rfl rfl (by kernel_rfl) (by decide) (fun K hK => ?_)
          refine skip_ (w1 := ?_) (by rfl) rfl ?_ ?_
          rotate_left
          · go_simp
            rfl
          refine hK.out _ _ ?_
          clear hK K
          refine done_ (by kernel_rfl) ?_
          clear hHeld y0 y5 y7 fz7
          generalize w7.setCell ⟨a, i.toNat, none⟩ (.slice A7 n7 c7) = W8 at *
          go_wp2
          go_roundw
          case rel => exact ⟨.slice A7 n7 c7, xs ++ [y], by have := HXS.out; simp; omega, by rw [HJK.out]; simp, HA7⟩
          case measure => have := HJ.out; have := HXS.out; simp [intOf, HJK.out]; omega
        · have hxm : xs.length = m := by omega
          subst hxm
          have hd2 : decide ((xs.length : Int) < (xs.length : Int)) = false := decide_eq_false (by omega)
          go_wp2
          go_roundw
          case rel => exact ⟨ps ++ [(v, xs)], k, by have := HKK.out; simp; omega, by rw [HK.out]; simp, ⟨HA2.out.all.all, by rw [psB_more, ← List.append_assoc, ← List.append_assoc]; exact HA2.out.rd, fun p hp => (by
            rcases List.mem_append.1 hp with hp | hp
            · exact HA2.out.bd p hp
            · rw [List.mem_singleton] at hp
              subst hp
              exact ⟨HM.out, HA2.out.bx⟩), HA2.out.bel, HA2.out.kp⟩⟩
          case measure => have := HI.out; have := HKK.out; simp [intOf, HK.out]; omega
end Go.Proofs.YtchfkkpghipeiaaDoor.Q
end

section
namespace Go.Proofs.YtchfkkpghipeiaaDoor.Q
open Go.RowKit Go.Shelf Go.Proofs.YtchfkkpghipeiaaDoorW.PrintWords Go.Proofs.YtchfkkpghipeiaaDoorW.PrintLast Go.Proofs.YtchfkkpghipeiaaDoorW.PrintMore
set_option linter.unusedVariables false
set_option linter.unusedSimpArgs false

theorem few_l1 : usufructlaw32_few.l1 1 [] 0 = some true := by
  unfold usufructlaw32_few.l1
  rw [if_neg (by decide)]
theorem few_l0 (l : List S23) (hl : l.length ≤ 66) : ∀ d j : Nat, j + d = l.length → ∃ r, usufructlaw32_few.l0 (d + 2) l [] (j : Int) = some r ∧ (r = true → ∀ m (h : m < l.length), j ≤ m → l[m].f0.size ≤ 100) := by
  intro d
  induction d with
  | zero =>
    intro j h
    unfold usufructlaw32_few.l0
    rw [if_neg (by omega), few_l1]
    exact ⟨true, rfl, fun _ m h1 h2 => by omega⟩
  | succ d ih =>
    intro j h
    unfold usufructlaw32_few.l0
    have hj : j < l.length := by omega
    rw [if_pos (by omega), if_pos (by omega)]
    have hx : rd_T23 l (j : Int) = l[j] := by
      unfold rd_T23
      rw [Int.toNat_natCast, List.getD_eq_getElem?_getD, List.getElem?_eq_getElem hj]
      rfl
    rw [hx]
    by_cases hs : (l[j].f0.size : Int) > 100
    · rw [if_pos hs]
      exact ⟨false, rfl, fun h => by cases h⟩
    · rw [if_neg hs, show wrap64 ((j : Int) + 1) = ((j + 1 : Nat) : Int) by unfold wrap64; omega]
      obtain ⟨r, hr, hm⟩ := ih (j + 1) (by omega)
      refine ⟨r, hr, fun h m h1 h2 => ?_⟩
      by_cases e : m = j
      · subst e; omega
      · exact hm h m h1 (by omega)
theorem few_f (l : List S23) : ∃ k r, usufructlaw32_few.f k l [] = some r ∧ (r = true → ∀ q ∈ l, q.f0.size < 1000000) := by
  by_cases hl : l.length ≤ 66
  · obtain ⟨r, hr, hm⟩ := few_l0 l hl l.length 0 (by omega)
    refine ⟨l.length + 3, r, ?_, fun h q hq => ?_⟩
    · unfold usufructlaw32_few.f
      rw [if_neg (by omega)]
      rw [usufructlaw32_few.j0, if_neg (by simp)]
      exact hr
    · obtain ⟨m, hm1, rfl⟩ := List.getElem_of_mem hq
      have := hm h m hm1 (Nat.zero_le _)
      omega
  · refine ⟨1, false, ?_, fun h => by cases h⟩
    unfold usufructlaw32_few.f
    rw [if_pos (by omega)]
    rw [usufructlaw32_few.j0, if_pos rfl]

theorem IsN.lower {base base' : Nat} {W : World} {g : Nat} {qs : List S23} (h : IsN base W g qs) (hb : base' ≤ base) : IsN base' W g qs := by
  obtain ⟨v, h1, h2, h3⟩ := h
  exact ⟨v, h1, Nat.le_trans hb h2, Kd.R_lower h3 hb⟩
theorem put_new (g : Nat) (l : List S23) (base : Nat) (w : World) (hN : IsN base w g l) (hl : l.length ≤ 64) (pb : List Int) (hpb : putB (l.map mk0) 0 = pb) :
    Calls Tryd.prog 12 #[.pointer (some ⟨g, 0, none⟩)] w fun e w' => ∃ A c, e = .returned (.slice A pb.length c) ∧ Kd.C (Kd.int .u8) w' A pb.length pb ∧ Below w.heap.size w w' := by
  refine (quota_Put.calls g (l.map mk0) 0 w hN.rd (by rw [List.length_map]; exact hl) (fun x hx => ?_) (fun x hx y hy => ?_) (by omega)).mono ?_
  · obtain ⟨q, _, rfl⟩ := List.mem_map.1 hx
    exact Nat.zero_le _
  · obtain ⟨q, _, rfl⟩ := List.mem_map.1 hx
    cases hy
  · rw [hpb]
    rintro e w' ⟨v, rfl, hR, hb⟩
    obtain ⟨A, c, rfl, _, hC⟩ := Kd.R_reads hR
    exact ⟨A, c, rfl, hC, hb⟩
theorem put_old (g : Nat) (l : List S46) (t : Int) (b : List Int) (w : World) (hG : RdG w g l t) (hl : l.length ≤ 64) (hk : ∀ x ∈ l, Tk x.f1) (h0 : 0 ≤ t) (h1 : t ≤ 4611686018427387904) (hb : putB l t = b) :
    Calls Tryd.prog 12 #[.pointer (some ⟨g, 0, none⟩)] w fun e w' => ∃ A c, e = .returned (.slice A b.length c) ∧ Kd.C (Kd.int .u8) w' A b.length b ∧ Below w.heap.size w w' := by
  refine (quota_Put.calls g l t w hG hl (fun x hx => (hk x hx).1) (fun x hx y hy => ?_) (by omega)).mono ?_
  · have := (hk x hx).2 y hy
    omega
  · rintro e w' ⟨v, rfl, hR, hb'⟩
    obtain ⟨A, c, rfl, _, hC⟩ := Kd.R_reads hR
    rw [hb] at hC
    exact ⟨A, c, by rw [hb], hC, hb'⟩

set_option maxRecDepth 100000 in
set_option maxHeartbeats 4000000 in
theorem usufructlaw32_QuotaLoads.calls (A : Option Addr) (c : Nat) (l : List S23) (Ab : Option Addr) (cb : Nat) (b : List Int) (w : World) (hTab_ : Tabs_ w) (hC : Kd.C k23 w A l.length l) (hc : l.length ≤ c) (hCb : Kd.C (Kd.int .u8) w Ab b.length b) (hcb : b.length ≤ cb) (hB : BB b) :
    Calls Tryd.prog 5 #[.slice A l.length c, .slice Ab b.length cb] w fun e w' => e = .returned (.bool true) ∧ Below w.heap.size w w' := by
  have HTAB_ := Aside0.mk hTab_
  have HR := Aside0.mk hC
  have HCC := Aside0.mk hc
  have HRB := Aside0.mk hCb
  have HCB := Aside0.mk hcb
  have HBB := Aside0.mk hB
  clear hTab_ hC hc hCb hcb hB
  obtain ⟨k, fb, hfb, hsz⟩ := few_f l
  have HF := Aside0.mk hfb
  have HSZ := Aside0.mk hsz
  clear hfb hsz
  go_enter Tryd.func5, Tryd.ntmps5
  go_upto_region 3 with (go_at_call 6; refine (usufructlaw32_awake.calls _ HTAB_.out).mono ?_; rintro e W1 ⟨rfl, hb⟩; have HB1 := Aside0.mk hb; clear hb)
  cases fb with
  | false =>
    go_wp2_with (go_at_call 11; refine (usufructlaw32_few.calls k A c l none 0 [] false _ (Kd.C_below HR.out HB1.out) HCC.out (Kd.C_nil _ _) (Nat.le_refl _) HF.out).mono ?_; rintro e W2 ⟨rfl, hd⟩; have HB2 := Aside0.mk (below_step HB1.out hd.below); clear hd)
    go_ret
    exact ⟨rfl, HB2.out⟩
  | true =>
    have HSZ2 := Aside0.mk (HSZ.out rfl)
    clear HSZ
    by_cases h6 : (6 : Int) < (l.length : Int)
    · have hd6 : decide ((6 : Int) < (l.length : Int)) = true := decide_eq_true h6
      clear h6
      go_wp2_with (go_at_call 11; refine (usufructlaw32_few.calls k A c l none 0 [] true _ (Kd.C_below HR.out HB1.out) HCC.out (Kd.C_nil _ _) (Nat.le_refl _) HF.out).mono ?_; rintro e W2 ⟨rfl, hd⟩; have HB2 := Aside0.mk (below_step HB1.out hd.below); clear hd)
      go_ret
      exact ⟨rfl, HB2.out⟩
    have hd6 : decide ((6 : Int) < (l.length : Int)) = false := decide_eq_false h6
    have H6 := Aside0.mk (show l.length ≤ 6 by omega)
    clear h6
    by_cases h3 : (300 : Int) < (b.length : Int)
    · have hd3 : decide ((300 : Int) < (b.length : Int)) = true := decide_eq_true h3
      clear h3
      go_wp2_with (go_at_call 11; refine (usufructlaw32_few.calls k A c l none 0 [] true _ (Kd.C_below HR.out HB1.out) HCC.out (Kd.C_nil _ _) (Nat.le_refl _) HF.out).mono ?_; rintro e W2 ⟨rfl, hd⟩; have HB2 := Aside0.mk (below_step HB1.out hd.below); clear hd)
      go_ret
      exact ⟨rfl, HB2.out⟩
    have hd3 : decide ((300 : Int) < (b.length : Int)) = false := decide_eq_false h3
    have H3 := Aside0.mk (show b.length ≤ 300 by omega)
    clear h3
    obtain ⟨nr, hnr⟩ : ∃ nr, newR l = nr := ⟨_, rfl⟩
    have HNR := Aside0.mk hnr
    clear hnr
    by_cases he : nr.2 = 0
    rotate_left
    · have hde : (nr.2 != 0) = true := bne_iff_ne.mpr he
      have HNE := Aside0.mk he
      clear he
      go_wp2_with (first | (go_at_call 11; refine (usufructlaw32_few.calls k A c l none 0 [] true _ (Kd.C_below HR.out HB1.out) HCC.out (Kd.C_nil _ _) (Nat.le_refl _) HF.out).mono ?_; rintro e W2 ⟨rfl, hd⟩; have HB2 := Aside0.mk (below_step HB1.out hd.below); clear hd) | (go_at_call 7; refine (quota_New.calls A c l _ (HTAB_.out.below HB2.out) (Kd.C_below HR.out HB2.out) HCC.out HSZ2.out (by have := H6.out; omega)).mono ?_; rw [HNR.out]; rintro e W3 ⟨p, rfl, hp, hb⟩; unfold NewG at hp; rw [if_neg HNE.out] at hp; subst hp; have HB3 := Aside0.mk (below_step HB2.out hb); clear hb))
      go_ret
      exact ⟨rfl, HB3.out⟩
    have hde : (nr.2 != 0) = false := by rw [he]; rfl
    have HE := Aside0.mk he
    clear he
    obtain ⟨pb, hpb⟩ : ∃ pb, putB (l.map mk0) 0 = pb := ⟨_, rfl⟩
    have HPB := Aside0.mk hpb
    clear hpb
    go_upto_region 11 with (first | (go_at_call 11; refine (usufructlaw32_few.calls k A c l none 0 [] true _ (Kd.C_below HR.out HB1.out) HCC.out (Kd.C_nil _ _) (Nat.le_refl _) HF.out).mono ?_; rintro e W2 ⟨rfl, hd⟩; have HB2 := Aside0.mk (below_step HB1.out hd.below); clear hd) | (go_at_call 7; refine (quota_New.calls A c l _ (HTAB_.out.below HB2.out) (Kd.C_below HR.out HB2.out) HCC.out HSZ2.out (by have := H6.out; omega)).mono ?_; rw [HNR.out]; rintro e W3 ⟨p, rfl, hp, hb⟩; unfold NewG at hp; rw [if_pos HE.out] at hp; obtain ⟨g, rfl, hN⟩ := hp; have HN3 := Aside0.mk (hN.lower HB2.out.size); have HB3 := Aside0.mk (below_step HB2.out hb); clear hb hN) | (go_at_call 12; refine (put_new g l _ _ HN3.out (by have := H6.out; omega) pb HPB.out).mono ?_; rintro e W4 ⟨A4, c4, rfl, hC4, hb⟩; have HB4 := Aside0.mk (below_step HB3.out hb); have HN4 := Aside0.mk (HN3.out.below hb); have hcv4 := Kd.C_string (P := Tryd.prog) (w := W4) (A := A4) (c := c4) Tryd.underlying35 Tryd.underlying5 Tryd.underlying9 hC4; clear hb hC4))
    clear hcv4
    go_upto_region 12 with (go_at_call 13; refine (quota_Load.calls w.heap.size g l Ab cb b _ HN4.out (Kd.C_below HRB.out HB4.out) HCB.out HBB.out H3.out (by have := H6.out; omega)).mono ?_; rintro e W5 ⟨er, rfl, hL⟩; have HL5 := Aside0.mk hL; clear hL)
    by_cases her : er = 0
    rotate_left
    · have hde2 : (er != 0) = true := bne_iff_ne.mpr her
      have hL := HL5.out
      unfold LoadP at hL
      rw [if_neg her] at hL
      have HB5 := Aside0.mk (below_step HB4.out hL)
      have HN5 := Aside0.mk (HN4.out.below hL)
      clear hL her
      go_wp2_with (go_at_call 12; refine (put_new g l _ _ HN5.out (by have := H6.out; omega) pb HPB.out).mono ?_; rintro e W6 ⟨A6, c6, rfl, hC6, hb⟩; have HB6 := Aside0.mk (below_step HB5.out hb); have hcv6 := Kd.C_string (P := Tryd.prog) (w := W6) (A := A6) (c := c6) Tryd.underlying35 Tryd.underlying5 Tryd.underlying9 hC6; clear hb hC6)
      go_ret
      exact ⟨by simp, HB6.out⟩
    · have hL := HL5.out
      unfold LoadP at hL
      rw [if_pos her] at hL
      subst her
      obtain ⟨hb5, l', t', hG, hpb', hll, htk, ht0, ht1⟩ := hL
      have HB5 := Aside0.mk (HB4.out.trans hb5)
      have HG := Aside0.mk hG
      have HPB' := Aside0.mk hpb'
      have HLL := Aside0.mk (show l'.length ≤ 64 by have := H6.out; omega)
      have HTK := Aside0.mk htk
      have HT := Aside0.mk (And.intro ht0 ht1)
      clear hb5 hG hpb' hll htk ht0 ht1
      go_upto_region 14 with (fail)
      have HGD := Aside0.mk (HG.out.below (below_drew1 (Below.refl _ _)))
      have HBD := Aside0.mk (below_step HB5.out (below_drew1 (Below.refl _ _)))
      have hcvb := Kd.C_string (P := Tryd.prog) (w := W5) (A := Ab) (c := cb) Tryd.underlying35 Tryd.underlying5 Tryd.underlying9 (Kd.C_below HRB.out HB5.out)
      have hcvd := Kd.C_string (P := Tryd.prog) (w := W5.drew) (A := Ab) (c := cb) Tryd.underlying35 Tryd.underlying5 Tryd.underlying9 (Kd.C_drew (Kd.C_below HRB.out HB5.out))
      go_region_with (go_at_call 12; go_loud (refine (put_old g l' t' b _ HGD.out HLL.out HTK.out HT.out.1 HT.out.2 HPB'.out).mono ?_; rintro e W6 ⟨A6, c6, rfl, hC6, hb⟩; have HB6 := Aside0.mk (below_step HBD.out hb); have hcv6 := Kd.C_string (P := Tryd.prog) (w := W6) (A := A6) (c := c6) Tryd.underlying35 Tryd.underlying5 Tryd.underlying9 hC6; have hcvb6 := Kd.C_string (P := Tryd.prog) (w := W6) (A := Ab) (c := cb) Tryd.underlying35 Tryd.underlying5 Tryd.underlying9 (Kd.C_below HRB.out HB6.out); clear hb hC6))
      all_goals go_wp2
      all_goals go_ret
      all_goals exact ⟨rfl, HB6.out⟩
end Go.Proofs.YtchfkkpghipeiaaDoor.Q
end

section
namespace Go.Proofs.YtchfkkpghipeiaaDoor.Walk
open Go.RowKit Go.Proofs.YtchfkkpghipeiaaDoorW.PrintWords Go.Proofs.YtchfkkpghipeiaaDoor.Q
set_option linter.unusedVariables false
theorem QuotaLoads.walk (w : World) (A0 : Option Addr) (c0 : Nat) (l0 : List S23) (A1 : Option Addr) (c1 : Nat) (l1 : List Int)
    (hr0 : Kd.C k23 w A0 l0.length l0) (hc0 : l0.length ≤ c0) (hm0 : c0 ≤ maxLen) (ok0 : ∀ x ∈ l0, (fun s : S23 => (fun x : ByteArray × Int × Int => (fun x => x.size ≤ maxLen) x.1 ∧ (fun x => (Lit.int .i64 x).wf = true) x.2.1 ∧ (fun x => (Lit.int .i64 x).wf = true) x.2.2) (s.f0, (s.f1, s.f2))) x) (hr1 : Kd.C (Kd.int .u8) w A1 l1.length l1) (hc1 : l1.length ≤ c1) (hm1 : c1 ≤ maxLen) (ok1 : ∀ x ∈ l1, (fun x => (Lit.int .u8 x).wf = true) x) (hTab_ : Tabs_ w) :
    Calls Tryd.prog 5 #[.slice A0 l0.length c0, .slice A1 l1.length c1] w fun e w' => e = .returned (.bool true) ∧ Below w.heap.size w w' := by
  refine usufructlaw32_QuotaLoads.calls A0 c0 l0 A1 c1 l1 w hTab_ hr0 hc0 hr1 hc1 (fun x hx => ?_)
  have h := Go.bounds_u8 (ok1 x hx)
  omega
end Go.Proofs.YtchfkkpghipeiaaDoor.Walk
end
