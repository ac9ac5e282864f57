/- readyq: the library's heap over the row: up, down, Push, Remove. -/
import Derived.Test.YthnfbcicnmnhnaaGRqRow
namespace Go.Proofs.Ythnfbcicnmnhnaa.Q
open Go.RowKit Go.Shelf Go.Proofs.YthnfbcicnmnhnaaW.PrintWords Go.Proofs.YthnfbcicnmnhnaaW.PrintLast Go.Proofs.YthnfbcicnmnhnaaW.PrintMore
set_option linter.unusedVariables false
set_option linter.unusedSimpArgs false

def ltE (x y : En) : Bool := decide (cmpE x y < 0)
theorem row_LessB (w0 w : World) (q : Nat) (cap age last : Int) (es : List En) (v : Value) (m n : Nat) (ms : List En) (hx : IsQX w0 w q cap age last es v m n ms) (i j : Nat) (hi : i < es.length) (hj : j < es.length) (ii jj : Int) (hii : (i : Int) = ii) (hjj : (j : Int) = jj) (b : Bool) (hb : Hp.ltAt ltE es i j = b) :
    Calls Try.prog 65 #[.pointer (some ⟨q, 3, none⟩), .int .i64 ii, .int .i64 jj] w fun e w' => e = .returned (.bool b) ∧ Below w.heap.size w w' := by
  have h := row_Less.calls w0 w q cap age last es v m n ms hx i j hi hj ii jj (by omega) (by omega) (by omega) (by omega)
  rw [Hp.ltAt_eq ltE hi hj] at hb
  unfold ltE at hb
  rw [hb] at h
  exact h
set_option maxRecDepth 100000 in
set_option maxHeartbeats 4000000 in
theorem heap_up.calls (w0 w : World) (q : Nat) (cap age last : Int) (es : List En) (v : Value) (m n : Nat) (ms : List En) (hx : IsQX w0 w q cap age last es v m n ms) (hb : Below w0.heap.size w0 w) (j : Nat) (hj : j < es.length) (hl : es.length < 1000000) (ji : Int) (hji : (j : Int) = ji) :
    Calls Try.prog 26 #[.iface 63 (.pointer (some ⟨q, 3, none⟩)), .int .i64 ji] w fun e w' => e = .returned (.tuple #[]) ∧ IsQX w0 w' q cap age last (Hp.upF ltE es j) v m n ms ∧ Below w0.heap.size w0 w' := by
  have HX := Aside0.mk hx
  have HB := Aside0.mk hb
  have HL := Aside0.mk hl
  have HJ := Aside0.mk (And.intro hj hji)
  clear hx hb hl hj hji
  have hm1 : ∀ W : World, (method 216 63 (.pointer (some ⟨q, 3, none⟩)) "Less").run Try.prog W = .ok (65, .pointer (some ⟨q, 3, none⟩)) W := fun _ => by kernel_rfl
  have hm2 : ∀ W : World, (method 216 63 (.pointer (some ⟨q, 3, none⟩)) "Swap").run Try.prog W = .ok (68, .pointer (some ⟨q, 3, none⟩)) W := fun _ => by kernel_rfl
  go_enter Try.func26, Try.ntmps26
  go_wp2
  go_loopw [1] (fun v1 W => ∃ (k : Nat) (ki : Int) (fs : List En), v1 = .int .i64 ki ∧ Aside0 ((k : Int) = ki ∧ k < fs.length ∧ fs.length = es.length) ∧ Aside0 (IsQX w0 W q cap age last fs v m n ms) ∧ Aside0 (Below w0.heap.size w0 W) ∧ Aside0 (Hp.upF ltE fs k = Hp.upF ltE es j)) (fun v1 _ => (intOf v1).toNat)
  case atStart => exact ⟨j, ji, es, rfl, ⟨HJ.out.2, HJ.out.1, rfl⟩, HX, HB, ⟨rfl⟩⟩
  case round =>
    clear HX HB HJ
    obtain ⟨k, ki, fs, rfl, HK, HX, HB, HE⟩ := hrel
    by_cases h0 : k = 0
    · obtain rfl : ki = 0 := by have := HK.out.1; omega
      have he := HE.out
      rw [Hp.upF, dif_pos h0] at he
      have HE2 := Aside0.mk he
      clear he h0
      go_wp2
      go_end0
      exact ⟨rfl, by rw [← HE2.out]; exact HX.out, HB.out⟩
    · have hp : (k - 1) / 2 < fs.length := by have := HK.out; omega
      have hk := HK.out.2.1
      obtain ⟨k1, hk1⟩ : ∃ k1 : Int, ki - 1 = k1 := ⟨_, rfl⟩
      obtain ⟨pi, hpi⟩ : ∃ pi : Int, (((k - 1) / 2 : Nat) : Int) = pi := ⟨_, rfl⟩
      have hw1 : wrap64 (ki - 1) = k1 := by have := HK.out; have := HL.out; unfold wrap64; omega
      have hw2 : k1.tdiv 2 = pi := by rw [Int.tdiv_eq_ediv_of_nonneg (by have := HK.out; omega)]; have := HK.out; omega
      have hw3 : wrap64 pi = pi := by have := HK.out; have := HL.out; unfold wrap64; omega
      have hq3 : (pi == ki) = false := beq_eq_false_iff_ne.mpr (by have := HK.out; omega)
      have HKP := Aside0.mk (And.intro h0 (And.intro hp (And.intro hk hpi)))
      cases hlt : Hp.ltAt ltE fs k ((k - 1) / 2) with
      | false =>
        have HLT := Aside0.mk hlt
        have he := HE.out
        rw [Hp.upF, dif_neg h0, hlt, if_neg (by decide)] at he
        have HE2 := Aside0.mk he
        clear he h0 hp hk hk1 hpi hlt
        go_wp2_with (go_at_call 65; refine (row_LessB w0 _ q cap age last fs v m n ms HX.out k ((k - 1) / 2) HKP.out.2.2.1 HKP.out.2.1 ki pi HK.out.1 HKP.out.2.2.2 false HLT.out).mono ?_; rintro e w5 ⟨rfl, hb⟩; have HX5 := Aside0.mk (HX.out.below hb); have HB5 := Aside0.mk (HB.out.trans (hb.mono HB.out.size)); clear hb)
        go_end0
        exact ⟨rfl, by rw [← HE2.out]; exact HX5.out, HB5.out⟩
      | true =>
        have HLT := Aside0.mk hlt
        have he := HE.out
        rw [Hp.upF, dif_neg h0, hlt, if_pos rfl] at he
        have HE2 := Aside0.mk he
        clear he h0 hp hk hk1 hpi hlt
        go_wp2_with (first | (go_at_call 65; refine (row_LessB w0 _ q cap age last fs v m n ms HX.out k ((k - 1) / 2) HKP.out.2.2.1 HKP.out.2.1 ki pi HK.out.1 HKP.out.2.2.2 true HLT.out).mono ?_; rintro e w5 ⟨rfl, hb⟩; have HX5 := Aside0.mk (HX.out.below hb); have HB5 := Aside0.mk (HB.out.trans (hb.mono HB.out.size)); clear hb) | (go_at_call 68; refine (row_Swap.calls w0 _ q cap age last fs v m n ms HX5.out HB5.out ((k - 1) / 2) k HKP.out.2.1 HKP.out.2.2.1 (by have := HKP.out; omega) pi ki HKP.out.2.2.2 HK.out.1).mono ?_; rintro e w6 ⟨rfl, hx, hb⟩; have HX6 := Aside0.mk hx; have HB6 := Aside0.mk hb; clear hx hb))
        go_roundw
        case rel => exact ⟨(k - 1) / 2, pi, Hp.swapL fs ((k - 1) / 2) k, rfl, ⟨HKP.out.2.2.2, by rw [Hp.swap_len]; exact HKP.out.2.1, by rw [Hp.swap_len]; exact HK.out.2.2⟩, HX6, HB6, HE2⟩
        case measure => have := HKP.out; have := HK.out.1; simp [intOf]; omega

set_option maxRecDepth 100000 in
set_option maxHeartbeats 8000000 in
theorem heap_down.calls (w0 w : World) (q : Nat) (cap age last : Int) (es : List En) (v : Value) (m n : Nat) (ms : List En) (hx : IsQX w0 w q cap age last es v m n ms) (hb : Below w0.heap.size w0 w) (i0 N : Nat) (hN : N ≤ es.length) (hl : es.length < 1000000) (ii ni : Int) (hii : (i0 : Int) = ii) (hni : (N : Int) = ni) (hi0 : i0 < N) :
    Calls Try.prog 27 #[.iface 63 (.pointer (some ⟨q, 3, none⟩)), .int .i64 ii, .int .i64 ni] w fun e w' => e = .returned (.bool (decide (i0 < (Hp.downF ltE N es i0).2))) ∧ IsQX w0 w' q cap age last (Hp.downF ltE N es i0).1 v m n ms ∧ Below w0.heap.size w0 w' := by
  have HX := Aside0.mk hx
  have HB := Aside0.mk hb
  have HL := Aside0.mk hl
  have HN := Aside0.mk (And.intro hN (And.intro hni (And.intro hii hi0)))
  clear hx hb hl hN hni hii hi0
  have hm1 : ∀ W : World, (method 216 63 (.pointer (some ⟨q, 3, none⟩)) "Less").run Try.prog W = .ok (65, .pointer (some ⟨q, 3, none⟩)) W := fun _ => by kernel_rfl
  have hm2 : ∀ W : World, (method 216 63 (.pointer (some ⟨q, 3, none⟩)) "Swap").run Try.prog W = .ok (68, .pointer (some ⟨q, 3, none⟩)) W := fun _ => by kernel_rfl
  go_enter Try.func27, Try.ntmps27
  go_wp2
  go_loopw [7] (fun v7 W => ∃ (k : Nat) (ki : Int) (fs : List En), v7 = .int .i64 ki ∧ Aside0 ((k : Int) = ki ∧ k < N ∧ fs.length = es.length) ∧ Aside0 (IsQX w0 W q cap age last fs v m n ms) ∧ Aside0 (Below w0.heap.size w0 W) ∧ Aside0 (Hp.downF ltE N fs k = Hp.downF ltE N es i0)) (fun v7 _ => N - (intOf v7).toNat)
  case atStart => exact ⟨i0, ii, es, rfl, ⟨HN.out.2.2.1, HN.out.2.2.2, rfl⟩, HX, HB, ⟨rfl⟩⟩
  case round =>
    clear HX HB
    obtain ⟨k, ki, fs, rfl, HK, HX, HB, HE⟩ := hrel
    obtain ⟨k2, hk2⟩ : ∃ k2 : Int, 2 * ki = k2 := ⟨_, rfl⟩
    obtain ⟨j1, hj1⟩ : ∃ j1 : Int, k2 + 1 = j1 := ⟨_, rfl⟩
    obtain ⟨j2, hj2⟩ : ∃ j2 : Int, j1 + 1 = j2 := ⟨_, rfl⟩
    have HJ := Aside0.mk (show ((2 * k + 1 : Nat) : Int) = j1 ∧ ((2 * k + 1 + 1 : Nat) : Int) = j2 by have := HK.out; omega)
    have hw1 : wrap64 (2 * ki) = k2 := by have := HK.out; have := HL.out; have := HN.out; unfold wrap64; omega
    have hw2 : wrap64 (k2 + 1) = j1 := by have := HK.out; have := HL.out; have := HN.out; unfold wrap64; omega
    have hw3 : wrap64 (j1 + 1) = j2 := by have := HK.out; have := HL.out; have := HN.out; unfold wrap64; omega
    have hz1 : (j1 < 0) = False := eq_false (by have := HJ.out; omega)
    have hz2 : decide (j1 < 0) = false := decide_eq_false (by have := HJ.out; omega)
    clear hk2 hj1 hj2
    by_cases hle : N ≤ 2 * k + 1
    · have ha1 : (ni ≤ j1) = True := eq_true (by have := HJ.out; have := HN.out; omega)
      have ha2 : decide (ni ≤ j1) = true := decide_eq_true (by have := HJ.out; have := HN.out; omega)
      have he := HE.out
      rw [Hp.downF, dif_pos hle] at he
      have HE2 := Aside0.mk he
      clear he hle
      go_wp2
      go_ret
      rw [← HE2.out]
      refine ⟨?_, HX.out, HB.out⟩
      have h1 := HK.out.1
      have h2 := HN.out.2.2.1
      have : decide (ii < ki) = decide (i0 < k) := by rw [Bool.eq_iff_iff, decide_eq_true_eq, decide_eq_true_eq]; omega
      rw [← this]
      rfl
    · have ha1 : (ni ≤ j1) = False := eq_false (by have := HJ.out; have := HN.out; omega)
      have ha2 : decide (ni ≤ j1) = false := decide_eq_false (by have := HJ.out; have := HN.out; omega)
      have HLE := Aside0.mk hle
      have HJ1 := Aside0.mk (show 2 * k + 1 < fs.length by have := HK.out; have := HN.out; omega)
      have HKF := Aside0.mk (show k < fs.length by have := HK.out; have := HN.out; omega)
      have key : ∀ (kd : Nat) (kdi : Int) (b1 b2 : Bool), Aside0 (Hp.kid ltE N fs k = kd ∧ (kd : Int) = kdi ∧ kd < fs.length) → ∀ lt, Aside0 (Hp.ltAt ltE fs kd k = lt) → True := fun _ _ _ _ _ _ _ => trivial
      clear key
      by_cases h2 : 2 * k + 1 + 1 < N
      · have hb1 : (j2 < ni) = True := eq_true (by have := HJ.out; have := HN.out; omega)
        have hb2 : decide (j2 < ni) = true := decide_eq_true (by have := HJ.out; have := HN.out; omega)
        have HJ2 := Aside0.mk (show 2 * k + 1 + 1 < fs.length by have := HK.out; have := HN.out; omega)
        cases hl2 : Hp.ltAt ltE fs (2 * k + 1 + 1) (2 * k + 1) with
        | true =>
          have HL2 := Aside0.mk hl2
          have hkid : Hp.kid ltE N fs k = 2 * k + 1 + 1 := by unfold Hp.kid; rw [if_pos ⟨h2, hl2⟩]
          cases hl3 : Hp.ltAt ltE fs (2 * k + 1 + 1) k with
          | true =>
            have HL3 := Aside0.mk hl3
            have he := HE.out
            rw [Hp.downF, dif_neg hle, hkid, hl3, if_pos rfl] at he
            have HE2 := Aside0.mk he
            have HH := Aside0.mk h2
            clear he hle h2 hl2 hl3 hkid
            go_wp2_with (first | (go_at_call 65; ((with_reducible refine (row_LessB w0 _ q cap age last fs v m n ms HX.out (2 * k + 1 + 1) (2 * k + 1) HJ2.out HJ1.out j2 j1 HJ.out.2 HJ.out.1 true HL2.out).mono ?_); rintro e w5 ⟨rfl, hb⟩; have HX5 := Aside0.mk (HX.out.below hb); have HB5 := Aside0.mk (HB.out.trans (hb.mono HB.out.size)); clear hb)) | (go_at_call 65; ((with_reducible refine (row_LessB w0 _ q cap age last fs v m n ms HX5.out (2 * k + 1 + 1) k HJ2.out HKF.out j2 ki HJ.out.2 HK.out.1 true HL3.out).mono ?_); rintro e w6 ⟨rfl, hb⟩; have HX6 := Aside0.mk (HX5.out.below hb); have HB6 := Aside0.mk (HB5.out.trans (hb.mono HB5.out.size)); clear hb)) | (go_at_call 68; refine (row_Swap.calls w0 _ q cap age last fs v m n ms HX6.out HB6.out k (2 * k + 1 + 1) HKF.out HJ2.out (by omega) ki j2 HK.out.1 HJ.out.2).mono ?_; rintro e w7 ⟨rfl, hx, hb⟩; have HX7 := Aside0.mk hx; have HB7 := Aside0.mk hb; clear hx hb))
            go_roundw
            case rel => exact ⟨2 * k + 1 + 1, j2, Hp.swapL fs k (2 * k + 1 + 1), rfl, ⟨HJ.out.2, HH.out, by rw [Hp.swap_len]; exact HK.out.2.2⟩, HX7, HB7, HE2⟩
            case measure => have := HJ.out; have := HK.out; have := HH.out; simp [intOf]; omega
          | false =>
            have HL3 := Aside0.mk hl3
            have he := HE.out
            rw [Hp.downF, dif_neg hle, hkid, hl3, if_neg (by decide)] at he
            have HE2 := Aside0.mk he
            clear he hle h2 hl2 hl3 hkid
            go_wp2_with (first | (go_at_call 65; ((with_reducible refine (row_LessB w0 _ q cap age last fs v m n ms HX.out (2 * k + 1 + 1) (2 * k + 1) HJ2.out HJ1.out j2 j1 HJ.out.2 HJ.out.1 true HL2.out).mono ?_); rintro e w5 ⟨rfl, hb⟩; have HX5 := Aside0.mk (HX.out.below hb); have HB5 := Aside0.mk (HB.out.trans (hb.mono HB.out.size)); clear hb)) | (go_at_call 65; ((with_reducible refine (row_LessB w0 _ q cap age last fs v m n ms HX5.out (2 * k + 1 + 1) k HJ2.out HKF.out j2 ki HJ.out.2 HK.out.1 false HL3.out).mono ?_); rintro e w6 ⟨rfl, hb⟩; have HX6 := Aside0.mk (HX5.out.below hb); have HB6 := Aside0.mk (HB5.out.trans (hb.mono HB5.out.size)); clear hb)))
            go_ret
            rw [← HE2.out]
            refine ⟨?_, HX6.out, HB6.out⟩
            have h1 := HK.out.1
            have h2 := HN.out.2.2.1
            have : decide (ii < ki) = decide (i0 < k) := by rw [Bool.eq_iff_iff, decide_eq_true_eq, decide_eq_true_eq]; omega
            rw [← this]
            rfl
        | false =>
          have HL2 := Aside0.mk hl2
          have hkid : Hp.kid ltE N fs k = 2 * k + 1 := by unfold Hp.kid; rw [if_neg (fun h => by rw [hl2] at h; exact absurd h.2 (by decide))]
          cases hl3 : Hp.ltAt ltE fs (2 * k + 1) k with
          | true =>
            have HL3 := Aside0.mk hl3
            have he := HE.out
            rw [Hp.downF, dif_neg hle, hkid, hl3, if_pos rfl] at he
            have HE2 := Aside0.mk he
            have HH := Aside0.mk h2
            clear he hle h2 hl2 hl3 hkid
            go_wp2_with (first | (go_at_call 65; ((with_reducible refine (row_LessB w0 _ q cap age last fs v m n ms HX.out (2 * k + 1 + 1) (2 * k + 1) HJ2.out HJ1.out j2 j1 HJ.out.2 HJ.out.1 false HL2.out).mono ?_); rintro e w5 ⟨rfl, hb⟩; have HX5 := Aside0.mk (HX.out.below hb); have HB5 := Aside0.mk (HB.out.trans (hb.mono HB.out.size)); clear hb)) | (go_at_call 65; ((with_reducible refine (row_LessB w0 _ q cap age last fs v m n ms HX5.out (2 * k + 1) k HJ1.out HKF.out j1 ki HJ.out.1 HK.out.1 true HL3.out).mono ?_); rintro e w6 ⟨rfl, hb⟩; have HX6 := Aside0.mk (HX5.out.below hb); have HB6 := Aside0.mk (HB5.out.trans (hb.mono HB5.out.size)); clear hb)) | (go_at_call 68; refine (row_Swap.calls w0 _ q cap age last fs v m n ms HX6.out HB6.out k (2 * k + 1) HKF.out HJ1.out (by omega) ki j1 HK.out.1 HJ.out.1).mono ?_; rintro e w7 ⟨rfl, hx, hb⟩; have HX7 := Aside0.mk hx; have HB7 := Aside0.mk hb; clear hx hb))
            go_roundw
            case rel => exact ⟨2 * k + 1, j1, Hp.swapL fs k (2 * k + 1), rfl, ⟨HJ.out.1, by have := HH.out; omega, by rw [Hp.swap_len]; exact HK.out.2.2⟩, HX7, HB7, HE2⟩
            case measure => have := HJ.out; have := HK.out; have := HH.out; simp [intOf]; omega
          | false =>
            have HL3 := Aside0.mk hl3
            have he := HE.out
            rw [Hp.downF, dif_neg hle, hkid, hl3, if_neg (by decide)] at he
            have HE2 := Aside0.mk he
            clear he hle h2 hl2 hl3 hkid
            go_wp2_with (first | (go_at_call 65; ((with_reducible refine (row_LessB w0 _ q cap age last fs v m n ms HX.out (2 * k + 1 + 1) (2 * k + 1) HJ2.out HJ1.out j2 j1 HJ.out.2 HJ.out.1 false HL2.out).mono ?_); rintro e w5 ⟨rfl, hb⟩; have HX5 := Aside0.mk (HX.out.below hb); have HB5 := Aside0.mk (HB.out.trans (hb.mono HB.out.size)); clear hb)) | (go_at_call 65; ((with_reducible refine (row_LessB w0 _ q cap age last fs v m n ms HX5.out (2 * k + 1) k HJ1.out HKF.out j1 ki HJ.out.1 HK.out.1 false HL3.out).mono ?_); rintro e w6 ⟨rfl, hb⟩; have HX6 := Aside0.mk (HX5.out.below hb); have HB6 := Aside0.mk (HB5.out.trans (hb.mono HB5.out.size)); clear hb)))
            go_ret
            rw [← HE2.out]
            refine ⟨?_, HX6.out, HB6.out⟩
            have h1 := HK.out.1
            have h2 := HN.out.2.2.1
            have : decide (ii < ki) = decide (i0 < k) := by rw [Bool.eq_iff_iff, decide_eq_true_eq, decide_eq_true_eq]; omega
            rw [← this]
            rfl
      · have hb1 : (j2 < ni) = False := eq_false (by have := HJ.out; have := HN.out; omega)
        have hb2 : decide (j2 < ni) = false := decide_eq_false (by have := HJ.out; have := HN.out; omega)
        have hkid : Hp.kid ltE N fs k = 2 * k + 1 := by unfold Hp.kid; rw [if_neg (fun h => h2 h.1)]
        cases hl3 : Hp.ltAt ltE fs (2 * k + 1) k with
        | true =>
          have HL3 := Aside0.mk hl3
          have he := HE.out
          rw [Hp.downF, dif_neg hle, hkid, hl3, if_pos rfl] at he
          have HE2 := Aside0.mk he
          clear he hle h2 hl3 hkid
          go_wp2_with (first | (go_at_call 65; ((with_reducible refine (row_LessB w0 _ q cap age last fs v m n ms HX.out (2 * k + 1) k HJ1.out HKF.out j1 ki HJ.out.1 HK.out.1 true HL3.out).mono ?_); rintro e w6 ⟨rfl, hb⟩; have HX6 := Aside0.mk (HX.out.below hb); have HB6 := Aside0.mk (HB.out.trans (hb.mono HB.out.size)); clear hb)) | (go_at_call 68; refine (row_Swap.calls w0 _ q cap age last fs v m n ms HX6.out HB6.out k (2 * k + 1) HKF.out HJ1.out (by omega) ki j1 HK.out.1 HJ.out.1).mono ?_; rintro e w7 ⟨rfl, hx, hb⟩; have HX7 := Aside0.mk hx; have HB7 := Aside0.mk hb; clear hx hb))
          go_roundw
          case rel => exact ⟨2 * k + 1, j1, Hp.swapL fs k (2 * k + 1), rfl, ⟨HJ.out.1, by have := HLE.out; omega, by rw [Hp.swap_len]; exact HK.out.2.2⟩, HX7, HB7, HE2⟩
          case measure => have := HJ.out; have := HK.out; have := HLE.out; simp [intOf]; omega
        | false =>
          have HL3 := Aside0.mk hl3
          have he := HE.out
          rw [Hp.downF, dif_neg hle, hkid, hl3, if_neg (by decide)] at he
          have HE2 := Aside0.mk he
          clear he hle h2 hl3 hkid
          go_wp2_with (go_at_call 65; ((with_reducible refine (row_LessB w0 _ q cap age last fs v m n ms HX.out (2 * k + 1) k HJ1.out HKF.out j1 ki HJ.out.1 HK.out.1 false HL3.out).mono ?_); rintro e w6 ⟨rfl, hb⟩; have HX6 := Aside0.mk (HX.out.below hb); have HB6 := Aside0.mk (HB.out.trans (hb.mono HB.out.size)); clear hb))
          go_ret
          rw [← HE2.out]
          refine ⟨?_, HX6.out, HB6.out⟩
          have h1 := HK.out.1
          have h2 := HN.out.2.2.1
          have : decide (ii < ki) = decide (i0 < k) := by rw [Bool.eq_iff_iff, decide_eq_true_eq, decide_eq_true_eq]; omega
          rw [← this]
          rfl

set_option maxRecDepth 100000 in
set_option maxHeartbeats 4000000 in
theorem heap_Push.calls (w0 w : World) (q : Nat) (cap age last : Int) (es : List En) (v : Value) (m n : Nat) (ms : List En) (hx : IsQX w0 w q cap age last es v m n ms) (e : En) (pl : Int) (he : IsEn w0 w e pl) (hd : ∀ x ∈ es, x.b ≠ e.b) (hl : es.length + 1 < 1000000) (hb : Below w0.heap.size w0 w) :
    Calls Try.prog 20 #[.iface 63 (.pointer (some ⟨q, 3, none⟩)), .iface 59 (.pointer (some ⟨e.b, 0, none⟩))] w fun en w' => ∃ v', en = .returned (.tuple #[]) ∧ IsQX w0 w' q cap age last (Hp.pushF ltE es e) v' m n ms ∧ Below w0.heap.size w0 w' := by
  have HX := Aside0.mk hx
  have HE := Aside0.mk he
  have HD := Aside0.mk hd
  have HL := Aside0.mk hl
  have HB := Aside0.mk hb
  obtain ⟨k, hk⟩ : ∃ k : Int, ((es.length : Nat) : Int) = k := ⟨_, rfl⟩
  obtain ⟨nl, hnl⟩ : ∃ nl : Int, ((es ++ [e]).length : Int) = nl := ⟨_, rfl⟩
  have hw : wrap64 (nl - 1) = k := by rw [List.length_append] at hnl; simp at hnl; unfold wrap64; omega
  have HNL := Aside0.mk hnl
  have HK := Aside0.mk hk
  clear hx he hd hl hb hk hnl
  have hm1 : ∀ W : World, (method 216 63 (.pointer (some ⟨q, 3, none⟩)) "Push").run Try.prog W = .ok (67, .pointer (some ⟨q, 3, none⟩)) W := fun _ => by kernel_rfl
  have hm2 : ∀ W : World, (method 216 63 (.pointer (some ⟨q, 3, none⟩)) "Len").run Try.prog W = .ok (21, .pointer (some ⟨q, 3, none⟩)) W := fun _ => by kernel_rfl
  go_enter Try.func20, Try.ntmps20
  go_wp2_with (first | (go_at_call 67; (refine (row_Push.calls w0 _ q cap age last es v m n ms HX.out e pl HE.out HD.out (by have := HL.out; omega) HB.out).mono ?_; rintro en w1 ⟨v', rfl, hx, hb⟩; have HX1 := Aside0.mk hx; have HB1 := Aside0.mk hb; clear hx hb)) | (go_at_call 21; (refine (row_Len.calls w0 _ q cap age last (es ++ [e]) v' m n ms HX1.out).mono ?_; rw [HNL.out]; rintro en w2 ⟨rfl, hb⟩; have HX2 := Aside0.mk (HX1.out.below hb); have HB2 := Aside0.mk (HB1.out.trans (hb.mono HB1.out.size)); clear hb)) | (go_at_call 26; (refine (heap_up.calls w0 _ q cap age last (es ++ [e]) v' m n ms HX2.out HB2.out es.length (by simp) (by have := HL.out; simp; omega) k HK.out).mono ?_; rintro en w3 ⟨rfl, hx, hb⟩; have HX3 := Aside0.mk hx; have HB3 := Aside0.mk hb; clear hx hb)))
  go_end0
  exact ⟨v', rfl, HX3.out, HB3.out⟩

set_option maxRecDepth 100000 in
set_option maxHeartbeats 4000000 in
theorem heap_Remove.calls (w0 w : World) (q : Nat) (cap age last : Int) (es : List En) (v : Value) (m n : Nat) (ms : List En) (hx : IsQX w0 w q cap age last es v m n ms) (hb : Below w0.heap.size w0 w) (i : Nat) (hi : i < es.length) (hl : es.length < 1000000) (ii : Int) (hii : (i : Int) = ii) :
    Calls Try.prog 22 #[.iface 63 (.pointer (some ⟨q, 3, none⟩)), .int .i64 ii] w fun en w' => ∃ v', en = .returned (.iface 59 (.pointer (some ⟨es[i].b, 0, none⟩))) ∧ IsQX w0 w' q cap age last (Hp.rest ltE es i) v' m n ms ∧ (∃ pl, IsEn w0 w' es[i] pl) ∧ Below w0.heap.size w0 w' := by
  have HX := Aside0.mk hx
  have HB := Aside0.mk hb
  have HL := Aside0.mk hl
  obtain ⟨N, hN⟩ : ∃ N, es.length - 1 = N := ⟨_, rfl⟩
  obtain ⟨nl, hnl⟩ : ∃ nl : Int, (es.length : Int) = nl := ⟨_, rfl⟩
  obtain ⟨ni, hni⟩ : ∃ ni : Int, (N : Int) = ni := ⟨_, rfl⟩
  have hw : wrap64 (nl - 1) = ni := by unfold wrap64; omega
  have HI := Aside0.mk (And.intro hi (And.intro hii (And.intro hN (And.intro hnl hni))))
  have hsp := Hp.gone_split (lt := ltE) hi
  have hm1 : ∀ W : World, (method 216 63 (.pointer (some ⟨q, 3, none⟩)) "Len").run Try.prog W = .ok (21, .pointer (some ⟨q, 3, none⟩)) W := fun _ => by kernel_rfl
  have hm2 : ∀ W : World, (method 216 63 (.pointer (some ⟨q, 3, none⟩)) "Swap").run Try.prog W = .ok (68, .pointer (some ⟨q, 3, none⟩)) W := fun _ => by kernel_rfl
  have hm3 : ∀ W : World, (method 216 63 (.pointer (some ⟨q, 3, none⟩)) "Pop").run Try.prog W = .ok (66, .pointer (some ⟨q, 3, none⟩)) W := fun _ => by kernel_rfl
  have hrl : (Hp.rest ltE es i).length < 1000000 := by rw [Hp.rest_len]; omega
  change Hp.gone ltE es i = Hp.rest ltE es i ++ [es[i]] at hsp
  have HRL := Aside0.mk hrl
  generalize hr : Hp.rest ltE es i = r at *
  generalize he : es[i] = e at *
  by_cases h0 : N = i
  · have hc1 : (ni != ii) = false := by have : ni = ii := by omega
                                        rw [this]; simp
    unfold Hp.gone at hsp
    rw [if_pos (by omega)] at hsp
    have HSP := Aside0.mk hsp
    clear hx hb hl hi hii hN hnl hni hsp hrl hr he h0
    go_enter Try.func22, Try.ntmps22
    go_wp2_with (first | (go_at_call 21; (refine (row_Len.calls w0 _ q cap age last es v m n ms HX.out).mono ?_; rw [HI.out.2.2.2.1]; rintro en w2 ⟨rfl, hb⟩; have HX2 := Aside0.mk (show IsQX w0 w2 q cap age last (r ++ [e]) v m n ms by rw [← HSP.out]; exact HX.out.below hb); have HB2 := Aside0.mk (HB.out.trans (hb.mono HB.out.size)); clear hb)) | (go_at_call 66; (refine (row_Pop.calls w0 _ q cap age last r e v m n ms HX2.out HB2.out HRL.out).mono ?_; rintro en w3 ⟨v', rfl, hx, hp, hb⟩; have HX3 := Aside0.mk hx; have HP3 := Aside0.mk hp; have HB3 := Aside0.mk hb; clear hx hp hb)))
    go_ret
    exact ⟨v', rfl, HX3.out, HP3.out, HB3.out⟩
  · have hc1 : (ni != ii) = true := bne_iff_ne.mpr (by omega)
    have hN1 : N < es.length := by omega
    have HN1 := Aside0.mk (And.intro hN1 h0)
    unfold Hp.gone at hsp
    rw [if_neg (by omega), hN] at hsp
    cases hd : decide (i < (Hp.downF ltE N (Hp.swapL es i N) i).2) with
    | true =>
      rw [if_pos (of_decide_eq_true hd)] at hsp
      have HSP := Aside0.mk hsp
      have HD := Aside0.mk hd
      clear hx hb hl hi hii hN hnl hni hsp hrl hr he h0 hd hN1
      go_enter Try.func22, Try.ntmps22
      go_wp2_with (first | (go_at_call 21; (refine (row_Len.calls w0 _ q cap age last es v m n ms HX.out).mono ?_; rw [HI.out.2.2.2.1]; rintro en w2 ⟨rfl, hb⟩; have HX2 := Aside0.mk (HX.out.below hb); have HB2 := Aside0.mk (HB.out.trans (hb.mono HB.out.size)); clear hb)) | (go_at_call 68; refine (row_Swap.calls w0 _ q cap age last es v m n ms HX2.out HB2.out i N HI.out.1 HN1.out.1 (fun h => HN1.out.2 h.symm) ii ni HI.out.2.1 HI.out.2.2.2.2).mono ?_; rintro en w3 ⟨rfl, hx, hb⟩; have HX3 := Aside0.mk hx; have HB3 := Aside0.mk hb; clear hx hb) | (go_at_call 27; refine (heap_down.calls w0 _ q cap age last (Hp.swapL es i N) v m n ms HX3.out HB3.out i N (by have := HN1.out.1; rw [Hp.swap_len]; omega) (by have := HL.out; rw [Hp.swap_len]; exact this) ii ni HI.out.2.1 HI.out.2.2.2.2 (by have := HN1.out; have := HI.out; omega)).mono ?_; rw [HD.out]; rintro en w4 ⟨rfl, hx, hb⟩; have HX4 := Aside0.mk (show IsQX w0 w4 q cap age last (r ++ [e]) v m n ms by rw [← HSP.out]; exact hx); have HB4 := Aside0.mk hb; clear hx hb) | (go_at_call 66; (refine (row_Pop.calls w0 _ q cap age last r e v m n ms HX4.out HB4.out HRL.out).mono ?_; rintro en w5 ⟨v', rfl, hx, hp, hb⟩; have HX5 := Aside0.mk hx; have HP5 := Aside0.mk hp; have HB5 := Aside0.mk hb; clear hx hp hb)))
      go_ret
      exact ⟨v', rfl, HX5.out, HP5.out, HB5.out⟩
    | false =>
      rw [if_neg (of_decide_eq_false hd)] at hsp
      have HSP := Aside0.mk hsp
      have HD := Aside0.mk hd
      clear hx hb hl hi hii hN hnl hni hsp hrl hr he h0 hd hN1
      go_enter Try.func22, Try.ntmps22
      go_wp2_with (first | (go_at_call 21; (refine (row_Len.calls w0 _ q cap age last es v m n ms HX.out).mono ?_; rw [HI.out.2.2.2.1]; rintro en w2 ⟨rfl, hb⟩; have HX2 := Aside0.mk (HX.out.below hb); have HB2 := Aside0.mk (HB.out.trans (hb.mono HB.out.size)); clear hb)) | (go_at_call 68; refine (row_Swap.calls w0 _ q cap age last es v m n ms HX2.out HB2.out i N HI.out.1 HN1.out.1 (fun h => HN1.out.2 h.symm) ii ni HI.out.2.1 HI.out.2.2.2.2).mono ?_; rintro en w3 ⟨rfl, hx, hb⟩; have HX3 := Aside0.mk hx; have HB3 := Aside0.mk hb; clear hx hb) | (go_at_call 27; refine (heap_down.calls w0 _ q cap age last (Hp.swapL es i N) v m n ms HX3.out HB3.out i N (by have := HN1.out.1; rw [Hp.swap_len]; omega) (by have := HL.out; rw [Hp.swap_len]; exact this) ii ni HI.out.2.1 HI.out.2.2.2.2 (by have := HN1.out; have := HI.out; omega)).mono ?_; rw [HD.out]; rintro en w4 ⟨rfl, hx, hb⟩; have HX4 := Aside0.mk hx; have HB4 := Aside0.mk hb; clear hx hb) | (go_at_call 26; refine (heap_up.calls w0 _ q cap age last _ v m n ms HX4.out HB4.out i (by rw [Hp.down_len, Hp.swap_len]; exact HI.out.1) (by rw [Hp.down_len, Hp.swap_len]; exact HL.out) ii HI.out.2.1).mono ?_; rintro en w5 ⟨rfl, hx, hb⟩; have HX5 := Aside0.mk (show IsQX w0 w5 q cap age last (r ++ [e]) v m n ms by rw [← HSP.out]; exact hx); have HB5 := Aside0.mk hb; clear hx hb) | (go_at_call 66; (refine (row_Pop.calls w0 _ q cap age last r e v m n ms HX5.out HB5.out HRL.out).mono ?_; rintro en w6 ⟨v', rfl, hx, hp, hb⟩; have HX6 := Aside0.mk hx; have HP6 := Aside0.mk hp; have HB6 := Aside0.mk hb; clear hx hp hb)))
      go_ret
      exact ⟨v', rfl, HX6.out, HP6.out, HB6.out⟩
end Go.Proofs.Ythnfbcicnmnhnaa.Q
