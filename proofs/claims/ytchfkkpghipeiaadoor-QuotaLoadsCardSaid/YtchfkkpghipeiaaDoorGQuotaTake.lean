/- quota: Take on a gate of one row. -/
import Derived.Test.YtchfkkpghipeiaaDoorGQuotaState
namespace Go.Proofs.YtchfkkpghipeiaaDoor.Q
open Go.RowKit Go.Shelf Go.Proofs.YtchfkkpghipeiaaDoorW.PrintWords Go.Proofs.YtchfkkpghipeiaaDoorW.PrintLast Go.Proofs.YtchfkkpghipeiaaDoorW.PrintMore
set_option linter.unusedVariables false
set_option linter.unusedSimpArgs false

theorem append_full_step {ops : Array Oper} {o : Oper} {a : Act} {K : Act → World → Prop} {Q : Exit → Act → World → Prop} (W : World) (A : Option Addr) (ts : List Int) (y : Int) (nb : Nat) (hw : Region.wanted o (yielded ops a.tmps) = true) (s x : Operand)
    (ho : o.op = .call { callee := .builtin .append, args := #[s, x], argTypes := #[24, 24] }) (hs : a.eval s = .slice A ts.length ts.length) (hx : a.eval x = .slice (some ⟨nb, 0, none⟩) 1 1)
    (hC : Kd.C (Kd.int .i64) W A ts.length ts) (hl : ts.length < 1000000) (hn : W.heap[nb]? = some (.cells #[.int .i64 y] 3 (0, 0)))
    (h : ∀ q cap w', W.grownBy w' none → W.heap.size ≤ q → (ts ++ [y]).length ≤ cap → Kd.F (Kd.int .i64) w' (fun k => k = q) (some ⟨q, 0, none⟩) (ts ++ [y]).length (ts ++ [y]) → K (a.put o.dst (.slice (some ⟨q, 0, none⟩) (ts ++ [y]).length cap)) w') :
    if Region.wanted o (yielded ops a.tmps) = true then Oper.wp Tryd.prog o a W K Q else K (a.put o.dst undef) W := by
  have hA : A = none → ts.length = 0 := fun e => by
    subst e
    by_cases h0 : 0 < ts.length
    · obtain ⟨ad, e, _⟩ := hC.2.2 h0
      cases e
    · omega
  obtain ⟨v, w', hrun, hg, q, cap, rfl, hq, hcap, hF⟩ := append_full W o.type A ts y nb hC hl hA hn
  have hx2 : (execOp a.eval o).run Tryd.prog W = .ok (.value (.slice (some ⟨q, 0, none⟩) (ts ++ [y]).length cap)) w' := by
    simp only [execOp, ho, resolve, invoke, builtin, List.map_toArray, List.map_cons, List.map_nil, hs, hx]
    simp [hrun, Result.andThen]
  exact event_step hw hx2 (h q cap w' hg hq hcap hF)
theorem below_grown0 {w w1 : World} (h : w.grownBy w1 none) : Below w.heap.size w w1 := ⟨h.os, h.tape, h.output, h.size, fun k hk => h.block k hk (by simp)⟩

def takeE (x : S46) (t now : Int) : Int := if mayG t now = true then (if leftG [x] t x.f0.f0 now = 0 then 17 else 0) else 1
def takeX (x : S46) (t now : Int) : S46 := if takeE x t now = 0 then ⟨x.f0, withinL (x.f1 ++ [now]) (wrap64 (now - x.f0.f2))⟩ else x
def takeT (x : S46) (t now : Int) : Int := if takeE x t now = 0 then now else t
theorem named_self (x : S46) : firstI (isNamed x.f0.f0) [x] 0 = 0 := by
  unfold firstI
  rw [if_pos (by simp [isNamed])]

set_option maxRecDepth 100000 in
set_option maxHeartbeats 4000000 in
theorem quota_Take.calls (base g b : Nat) (ok : Nat → Prop) (x : S46) (t now : Int) (w : World) (hG : IsG base ok w g b x t) (hbase : base ≤ w.heap.size) (hok : ∀ k, w.heap.size ≤ k → ok k) (hl : x.f1.length < 900000) :
    Calls Tryd.prog 8 #[.pointer (some ⟨g, 0, none⟩), .string x.f0.f0, .int .i64 now] w fun e w' => e = .returned (.int .i64 (takeE x t now)) ∧ IsG base ok w' g b (takeX x t now) (takeT x t now) ∧ BG base g b w w' := by
  have HG := Aside0.mk hG
  have HRD := Aside0.mk hG.rd
  have HS := Aside0.mk hbase
  have HL := Aside0.mk (show x.f1.length < 1000000 by omega)
  have HLS := Aside0.mk hl
  have HTS := Aside0.mk (show ∀ y ∈ [x], y.f1.length < 1000000 by intro y hy; rw [List.mem_singleton] at hy; subst hy; omega)
  have hlen1 : [x].length < 1000000 := by simp
  have HOK := Aside0.mk hok
  clear hG hbase hl hok
  obtain ⟨m, hm⟩ : ∃ m, mayG t now = m := ⟨_, rfl⟩
  have HM := Aside0.mk hm
  clear hm
  rw [takeX, takeT, takeE, HM.out]
  cases m with
  | false =>
    rw [if_neg (show ¬ false = true by decide), if_neg (show ¬ (1 : Int) = 0 by decide), if_neg (show ¬ (1 : Int) = 0 by decide)]
    go_enter Tryd.func8, Tryd.ntmps8
    go_wp2_with (first | (go_at_call 16; refine (quota_may.calls g now [x] t _ HRD.out).mono ?_; rintro e w2 ⟨rfl, hb⟩; have HB2 := Aside0.mk hb; have hmm : (decide (0 ≤ now) && decide (now ≤ 1099511627776) && decide (t ≤ now)) = false := HM.out; clear hb))
    go_ret
    exact ⟨rfl, HG.out.below HB2.out, BG.of_below HB2.out HS.out⟩
  | true =>
    rw [if_pos rfl]
    obtain ⟨lf, hlf⟩ : ∃ lf, leftG [x] t x.f0.f0 now = lf := ⟨_, rfl⟩
    have HLF := Aside0.mk hlf
    clear hlf
    rw [HLF.out]
    by_cases h0 : lf = 0
    · subst h0
      rw [if_pos rfl, if_neg (show ¬ (17 : Int) = 0 by decide), if_neg (show ¬ (17 : Int) = 0 by decide)]
      go_enter Tryd.func8, Tryd.ntmps8
      go_wp2_with (first | (go_at_call 16; refine (quota_may.calls g now [x] t _ HRD.out).mono ?_; rintro e w2 ⟨rfl, hb⟩; have HB2 := Aside0.mk hb; have hmm : (decide (0 ≤ now) && decide (now ≤ 1099511627776) && decide (t ≤ now)) = true := HM.out; clear hb) | (go_at_call 10; refine (quota_Left.calls g x.f0.f0 now [x] t _ (HRD.out.below HB2.out) hlen1 HTS.out).mono ?_; rw [HLF.out]; rintro e w3 ⟨rfl, hb⟩; have HB3 := Aside0.mk (below_step HB2.out hb); clear hb))
      go_ret
      exact ⟨rfl, HG.out.below HB3.out, BG.of_below HB3.out HS.out⟩
    · rw [if_neg h0, if_pos rfl, if_pos rfl]
      have hd0 : (lf == 0) = false := by simpa using h0
      clear h0
      go_enter Tryd.func8, Tryd.ntmps8
      go_upto_region 5 with (first | (go_at_call 16; refine (quota_may.calls g now [x] t _ HRD.out).mono ?_; rintro e w2 ⟨rfl, hb⟩; have HB2 := Aside0.mk hb; have hmm : (decide (0 ≤ now) && decide (now ≤ 1099511627776) && decide (t ≤ now)) = true := HM.out; clear hb) | (go_at_call 10; refine (quota_Left.calls g x.f0.f0 now [x] t _ (HRD.out.below HB2.out) hlen1 HTS.out).mono ?_; rw [HLF.out]; rintro e w3 ⟨rfl, hb⟩; have HB3 := Aside0.mk (below_step HB2.out hb); clear hb))
      obtain ⟨cap, A, rest, h1, h2, h3, h4, h5, h6⟩ := HG.out.below HB3.out
      have hgb : g ≠ b := blk_ne h1 h2 (by decide)
      have HNE := Aside0.mk hgb
      have s1 := blk_frozen h1 1
      have s2 : w3.cell? ⟨g, 1, none⟩ = some (.int .i64 t) := (blk_cell h1 1).trans rfl
      have HCAP := Aside0.mk h3
      have HGE := Aside0.mk (And.intro h4 h5)
      have HG4 := Aside0.mk h1
      have HR4 := Aside0.mk h2
      have HF4 := Aside0.mk h6
      clear hgb h1 h2 h3 h4 h5 h6
      go_upto_region 6 with (fail)
      have hg5 : (w3.setCell ⟨g, 1, none⟩ (.int .i64 now)).heap[g]? = some (.cells #[.slice (some ⟨b, 0, none⟩) 1 cap, .int .i64 now] 42 (0, 0)) := blk_put HG4.out 1 (.int .i64 now) rfl
      have hr5 := blk_far HR4.out (p := ⟨g, 1, none⟩) HNE.out.symm (.int .i64 now)
      have hf5 := Kd.F_far HF4.out (p := ⟨g, 1, none⟩) (fun k hk => hk.1.1) (.int .i64 now)
      have hB5 : BG base g b w (w3.setCell ⟨g, 1, none⟩ (.int .i64 now)) := (BG.of_below HB3.out HS.out).set (p := ⟨g, 1, none⟩) HGE.out.1 (.inl rfl) _
      have hs5 : base ≤ (w3.setCell ⟨g, 1, none⟩ (.int .i64 now)).heap.size := Nat.le_trans HS.out hB5.2.1
      generalize w3.setCell ⟨g, 1, none⟩ (.int .i64 now) = W4 at *
      have HRD5 := Aside0.mk (show RdG W4 g [x] now from ⟨_, cap, hg5, row_reads (cap := cap) hr5 (Kd.F_now hf5), HCAP.out⟩)
      have HG5 := Aside0.mk hg5
      have HR5 := Aside0.mk hr5
      have HF5 := Aside0.mk hf5
      have HB5 := Aside0.mk hB5
      have HS5 := Aside0.mk hs5
      clear hg5 hr5 hf5 hB5 hs5 s1 s2 HG4 HR4 HF4
      go_upto_region 8 with (go_at_call 15; refine (quota_find.calls g x.f0.f0 [x] now _ HRD5.out hlen1).mono ?_; rw [named_self]; rintro e W5 ⟨rfl, hb⟩; replace HG5 := Aside0.mk (blk_below HG5.out hb); replace HR5 := Aside0.mk (blk_below HR5.out hb); replace HF5 := Aside0.mk (Kd.F_below HF5.out hb); replace HB5 := Aside0.mk (HB5.out.below HS5.out hb); replace HS5 := Aside0.mk (Nat.le_trans HS5.out hb.size); clear hb)
      have y0 : W5.drew.cell? ⟨g, 0, none⟩ = some (.slice (some ⟨b, 0, none⟩) 1 cap) := (blk_cell HG5.out 0).trans rfl
      have y3 : W5.drew.cell? ⟨b, 3, none⟩ = some (.slice A x.f1.length x.f1.length) := (blk_cell HR5.out 3).trans (rowC_3 x A rest)
      have HAL := Aside0.mk (show Below W5.heap.size W5 (W5.drew.alloc (.cells #[.int .i64 now] 3)) from below_alloc (below_drew1 (Below.refl _ W5)) _)
      refine start_ (n := 19) (S := fun w' => w'.cell? ⟨g, 0, none⟩ = some (.slice (some ⟨b, 0, none⟩) 1 cap) ∧ w'.cell? ⟨b, 3, none⟩ = some (.slice A x.f1.length x.f1.length)) (ds := [18]) #[false, false, false, false, false, false, false, false, false, false, false, false, false, false, false, false, false, false, false] (by kernel_rfl) rfl rfl ⟨y0, y3⟩ (fun hHeld => ?_)
      refine pure_ (i := 0) (N := some 30) (v := ?_) (a' := ?_) #[true, false, false, false, false, false, false, false, false, false, false, false, false, false, false, false, false, false, false] rfl rfl (by kernel_rfl) (fun _ _ _ h => h) (Or.inl ⟨by rfl, ?_⟩) ?_ ?_
      rotate_left
      · intro w'
        go_simp
        with_reducible rfl
      rotate_left
      · simp only [Act.put, List.setIfInBounds_toArray, List.set_cons_zero, List.set_cons_succ, i64_w, i32_w]
        rfl
      refine pure_ (i := 1) (N := some 31) (v := ?_) (a' := ?_) #[true, true, false, false, false, false, false, false, false, false, false, false, false, false, false, false, false, false, false] rfl rfl (by kernel_rfl) (fun _ _ _ h => h) (Or.inl ⟨by rfl, ?_⟩) ?_ ?_
      rotate_left
      · intro w'
        go_simp
        with_reducible rfl
      rotate_left
      · simp only [Act.put, List.setIfInBounds_toArray, List.set_cons_zero, List.set_cons_succ, i64_w, i32_w]
        rfl
      refine pure_ (i := 2) (N := some 32) (v := ?_) (a' := ?_) #[true, true, true, false, false, false, false, false, false, false, false, false, false, false, false, false, false, false, false] rfl rfl (by kernel_rfl) (fun _ _ _ h => h) (Or.inl ⟨by rfl, ?_⟩) ?_ ?_
      rotate_left
      · intro w'
        go_simp
        with_reducible rfl
      rotate_left
      · simp only [Act.put, List.setIfInBounds_toArray, List.set_cons_zero, List.set_cons_succ, i64_w, i32_w]
        rfl
      refine pure_ (i := 4) (N := some 34) (v := ?_) (a' := ?_) #[true, true, true, false, true, false, false, false, false, false, false, false, false, false, false, false, false, false, false] rfl rfl (by kernel_rfl) (fun _ _ _ h => h) (Or.inl ⟨by rfl, ?_⟩) ?_ ?_
      rotate_left
      · intro w'
        go_simp
        with_reducible rfl
      rotate_left
      · simp only [Act.put, List.setIfInBounds_toArray, List.set_cons_zero, List.set_cons_succ, i64_w, i32_w]
        rfl
      refine pure_ (i := 5) (N := some 35) (v := ?_) (a' := ?_) #[true, true, true, false, true, true, false, false, false, false, false, false, false, false, false, false, false, false, false] rfl rfl (by kernel_rfl) (fun _ _ _ h => h) (Or.inl ⟨by rfl, ?_⟩) ?_ ?_
      rotate_left
      · intro w'
        go_simp
        with_reducible rfl
      rotate_left
      · simp only [Act.put, List.setIfInBounds_toArray, List.set_cons_zero, List.set_cons_succ, i64_w, i32_w]
        rfl
      refine pure_ (i := 6) (N := some 36) (v := ?_) (a' := ?_) #[true, true, true, false, true, true, true, false, false, false, false, false, false, false, false, false, false, false, false] rfl rfl (by kernel_rfl) (fun _ _ _ h => h) (Or.inl ⟨by rfl, ?_⟩) ?_ ?_
      rotate_left
      · intro w'
        go_simp
        with_reducible rfl
      rotate_left
      · simp only [Act.put, List.setIfInBounds_toArray, List.set_cons_zero, List.set_cons_succ, i64_w, i32_w]
        rfl
      refine pure_ (i := 7) (N := some 37) (v := ?_) (a' := ?_) #[true, true, true, false, true, true, true, true, false, false, false, false, false, false, false, false, false, false, false] rfl rfl (by kernel_rfl) (fun _ _ _ h => h) (Or.inl ⟨by rfl, ?_⟩) ?_ ?_
      rotate_left
      · intro w'
        go_simp
        with_reducible rfl
      rotate_left
      · simp only [Act.put, List.setIfInBounds_toArray, List.set_cons_zero, List.set_cons_succ, i64_w, i32_w]
        rfl
      refine pure_ (i := 9) (N := some 39) (v := ?_) (a' := ?_) #[true, true, true, false, true, true, true, true, false, true, false, false, false, false, false, false, false, false, false] rfl rfl (by kernel_rfl) (fun _ _ _ h => h) (Or.inl ⟨by rfl, ?_⟩) ?_ ?_
      rotate_left
      · intro w'
        go_simp
        with_reducible rfl
      rotate_left
      · simp only [Act.put, List.setIfInBounds_toArray, List.set_cons_zero, List.set_cons_succ, i64_w, i32_w]
        rfl
      refine pure_ (i := 13) (N := some 43) (v := ?_) (a' := ?_) #[true, true, true, false, true, true, true, true, false, true, false, false, false, true, false, false, false, false, false] rfl rfl (by kernel_rfl) (fun _ _ _ h => h) (Or.inl ⟨by rfl, ?_⟩) ?_ ?_
      rotate_left
      · intro w'
        go_simp
        with_reducible rfl
      rotate_left
      · simp only [Act.put, List.setIfInBounds_toArray, List.set_cons_zero, List.set_cons_succ, i64_w, i32_w]
        rfl
      refine take_ (i := 3) (N := some 33) (v := ?_) (a' := ?_) #[true, true, true, true, true, true, true, true, false, true, false, false, false, true, false, false, false, false, false] rfl rfl (by kernel_rfl) (fun _ _ _ h => h) (Or.inl ⟨by rfl, ?_⟩) hHeld ?_ ?_
      rotate_left
      · rintro w' ⟨s0, s1⟩
        go_simp
        with_reducible rfl
      rotate_left
      · simp only [Act.put, List.setIfInBounds_toArray, List.set_cons_zero, List.set_cons_succ, i64_w, i32_w]
        rfl
      refine take_ (i := 8) (N := some 38) (v := ?_) (a' := ?_) #[true, true, true, true, true, true, true, true, true, true, false, false, false, true, false, false, false, false, false] rfl rfl (by kernel_rfl) (fun _ _ _ h => h) (Or.inl ⟨by rfl, ?_⟩) hHeld ?_ ?_
      rotate_left
      · rintro w' ⟨s0, s1⟩
        go_simp
        with_reducible rfl
      rotate_left
      · simp only [Act.put, List.setIfInBounds_toArray, List.set_cons_zero, List.set_cons_succ, i64_w, i32_w]
        rfl
      refine pure_ (i := 10) (N := some 40) (v := ?_) (a' := ?_) #[true, true, true, true, true, true, true, true, true, true, true, false, false, true, false, false, false, false, false] rfl rfl (by kernel_rfl) (fun _ _ _ h => h) (Or.inl ⟨by rfl, ?_⟩) ?_ ?_
      rotate_left
      · intro w'
        go_simp
        with_reducible rfl
      rotate_left
      · simp only [Act.put, List.setIfInBounds_toArray, List.set_cons_zero, List.set_cons_succ, i64_w, i32_w]
        rfl
      refine pure_ (i := 11) (N := some 41) (v := ?_) (a' := ?_) #[true, true, true, true, true, true, true, true, true, true, true, true, false, true, false, false, false, false, false] rfl rfl (by kernel_rfl) (fun _ _ _ h => h) (Or.inl ⟨by rfl, ?_⟩) ?_ ?_
      rotate_left
      · intro w'
        go_simp
        with_reducible rfl
      rotate_left
      · simp only [Act.put, List.setIfInBounds_toArray, List.set_cons_zero, List.set_cons_succ, i64_w, i32_w]
        rfl
      refine take_ (i := 12) (N := some 42) (v := ?_) (a' := ?_) #[true, true, true, true, true, true, true, true, true, true, true, true, true, true, false, false, false, false, false] rfl rfl (by kernel_rfl) (fun _ _ _ h => h) (Or.inl ⟨by rfl, ?_⟩) hHeld ?_ ?_
      rotate_left
      · rintro w' ⟨s0, s1⟩
        go_simp
        with_reducible rfl
      rotate_left
      · simp only [Act.put, List.setIfInBounds_toArray, List.set_cons_zero, List.set_cons_succ, i64_w, i32_w]
        rfl
      refine one_ (i := 14) (N := some 44) #[true, true, true, true, true, true, true, true, true, true, true, true, true, true, true, false, false, false, false] rfl rfl (by kernel_rfl) (by decide) (fun K hK => ?_)
      refine value_ (w1 := ?_) (v := ?_) (by rfl) rfl ?_ ?_
      rotate_left 2
      · go_simp
        constructor
        · rfl
        · rfl
      refine hK.out _ _ ⟨(HAL.out.cell (p := ⟨g, 0, none⟩) (blk_lt HG5.out)).trans y0, (HAL.out.cell (p := ⟨b, 3, none⟩) (blk_lt HR5.out)).trans y3⟩ (fun hHeld => ?_)
      clear hK K
      refine norm_ (a' := ?_) ?_ ?_
      rotate_left
      · show Act.put _ (some 44) _ = _
        simp only [Act.put, List.setIfInBounds_toArray, List.set_cons_zero, List.set_cons_succ, i64_w, i32_w]
        rfl
      refine one_ (i := 15) (N := some 45) #[true, true, true, true, true, true, true, true, true, true, true, true, true, true, true, true, false, false, false] rfl rfl (by kernel_rfl) (by decide) (fun K hK => ?_)
      refine append_full_step _ A x.f1 now W5.heap.size (by rfl) (.tmp 42) (.tmp 44) rfl rfl rfl (Kd.C_below (Kd.F_now HF5.out) HAL.out) HL.out (blk_new _ _) ?_
      intro q cq w6 hg6 hq hcq hF6
      have HG6 := Aside0.mk (blk_grown (blk_below HG5.out HAL.out) hg6 (by simp))
      have HR6 := Aside0.mk (blk_grown (blk_below HR5.out HAL.out) hg6 (by simp))
      have HF6 := Aside0.mk hF6
      have HCQ0 := Aside0.mk hcq
      have HQ6 := Aside0.mk (Nat.le_trans HAL.out.size hq)
      have HB6 := Aside0.mk ((HB5.out.below HS5.out HAL.out).below (Nat.le_trans HS5.out HAL.out.size) (below_grown0 hg6))
      clear hg6 hq hcq hF6
      have fz6 := blk_frozen HR6.out 3
      refine hK.out _ _ ⟨(blk_cell HG6.out 0).trans rfl, (blk_cell HR6.out 3).trans (rowC_3 x A rest)⟩ (fun hHeld => ?_)
      clear hK K
      refine norm_ (a' := ?_) ?_ ?_
      rotate_left
      · show Act.put _ (some 45) _ = _
        simp only [Act.put, List.setIfInBounds_toArray, List.set_cons_zero, List.set_cons_succ, i64_w, i32_w]
        rfl
      refine pure_ (i := 16) (N := some 46) (v := ?_) (a' := ?_) #[true, true, true, true, true, true, true, true, true, true, true, true, true, true, true, true, true, false, false] rfl rfl (by kernel_rfl) (fun _ _ _ h => h) (Or.inl ⟨by rfl, ?_⟩) ?_ ?_
      rotate_left
      · intro w'
        go_simp
        with_reducible rfl
      rotate_left
      · simp only [Act.put, List.setIfInBounds_toArray, List.set_cons_zero, List.set_cons_succ, i64_w, i32_w]
        rfl
      refine pure_ (i := 17) (N := some 47) (v := ?_) (a' := ?_) #[true, true, true, true, true, true, true, true, true, true, true, true, true, true, true, true, true, true, false] rfl rfl (by kernel_rfl) (fun _ _ _ h => h) (Or.inl ⟨by rfl, ?_⟩) ?_ ?_
      rotate_left
      · intro w'
        go_simp
        with_reducible rfl
      rotate_left
      · simp only [Act.put, List.setIfInBounds_toArray, List.set_cons_zero, List.set_cons_succ, i64_w, i32_w]
        rfl
      refine last_ (i := 18) (N := none) #[true, true, true, true, true, true, true, true, true, true, true, true, true, true, true, true, true, true, true] rfl rfl (by kernel_rfl) (by decide) (fun K hK => ?_)
      refine skip_ (w1 := ?_) (by rfl) rfl ?_ ?_
      rotate_left
      · go_simp
        rfl
      refine hK.out _ _ ?_
      clear hK K
      refine done_ (by kernel_rfl) ?_
      have hg7 := blk_far HG6.out (p := ⟨b, 3, none⟩) HNE.out (.slice (some ⟨q, 0, none⟩) (x.f1.length + 1) cq)
      have hr7 := blk_put (show w6.heap[b]? = some (.cells (rowU x (.slice A x.f1.length x.f1.length) rest) 46 (0, 0)) from HR6.out) 3 (.slice (some ⟨q, 0, none⟩) (x.f1.length + 1) cq) (rowU_put x _ _ rest)
      have hne6 : ∀ k, k = q → (k ≠ g ∧ k ≠ b) ∧ ok k := fun k hk => by
        have h1 := blk_lt HG5.out
        have h2 := blk_lt HR5.out
        have h3 := HQ6.out
        have h4 := HB5.out.2.1
        exact ⟨⟨by omega, by omega⟩, HOK.out k (by omega)⟩
      have hf7 := Kd.F_far (Kd.F_mono HF6.out hne6) (p := ⟨b, 3, none⟩) (fun k hk => hk.1.2) (.slice (some ⟨q, 0, none⟩) (x.f1.length + 1) cq)
      have hB7 : BG base g b w (w6.setCell ⟨b, 3, none⟩ (.slice (some ⟨q, 0, none⟩) (x.f1.length + 1) cq)) := HB6.out.set (p := ⟨b, 3, none⟩) HGE.out.2 (.inr rfl) _
      have hs7 : base ≤ (w6.setCell ⟨b, 3, none⟩ (.slice (some ⟨q, 0, none⟩) (x.f1.length + 1) cq)).heap.size := Nat.le_trans HS.out hB7.2.1
      have HL2 := Aside0.mk (show x.f1.length + 1 < 1000000 by have := HLS.out; omega)
      clear hHeld y0 y3 fz6
      generalize w6.setCell ⟨b, 3, none⟩ (.slice (some ⟨q, 0, none⟩) (x.f1.length + 1) cq) = W7 at *
      have HG7 := Aside0.mk hg7
      have HR7 := Aside0.mk hr7
      have HF7 := Aside0.mk hf7
      have HB7 := Aside0.mk hB7
      have HS7 := Aside0.mk hs7
      have y0 : W7.cell? ⟨g, 0, none⟩ = some (.slice (some ⟨b, 0, none⟩) 1 cap) := (blk_cell hg7 0).trans rfl
      clear hg7 hr7 hf7 hB7 hs7 hne6 HAL HG6 HR6 HF6 HB6 HQ6 HG5 HR5 HF5 HB5 HS5 HB2 HB3 hmm HRD5 HLF hd0
      go_wp2
      go_loopw [53] (fun v53 W => (v53 = .int .i64 0 ∧ W = W7) ∨ (v53 = .int .i64 1 ∧ Aside0 (IsG base ok W g b ⟨x.f0, withinL (x.f1 ++ [now]) (wrap64 (now - x.f0.f2))⟩ now) ∧ Aside0 (BG base g b w W))) (fun v53 _ => 1 - (intOf v53).toNat)
      case atStart => exact .inl ⟨rfl, rfl⟩
      case round =>
        rcases hrel with ⟨rfl, rfl⟩ | ⟨rfl, HIS, HBW⟩
        rotate_left
        · go_wp2
          go_ret
          exact ⟨rfl, HIS.out, HBW.out⟩
        clear y0
        have x0 := (blk_cell HR7.out 0).trans (rowU_0 x _ rest)
        have x1 := (blk_cell HR7.out 1).trans (rowU_1 x _ rest)
        have x2 := (blk_cell HR7.out 2).trans (rowU_2 x _ rest)
        have x3 := (blk_cell HR7.out 3).trans (rowU_3 x _ rest)
        go_upto_region 12 with (fail)
        obtain ⟨ts1, hts⟩ : ∃ ts1, x.f1 ++ [now] = ts1 := ⟨_, rfl⟩
        have hl1 : x.f1.length + 1 = ts1.length := by rw [← hts]; simp
        have HTS1 := Aside0.mk hts
        have HL1 := Aside0.mk (show ts1.length < 1000000 by have := HL2.out; omega)
        have HCQ := Aside0.mk (show ts1.length ≤ cq by have := HCQ0.out; rw [hts] at this; exact this)
        rw [hts] at HF7
        rw [hl1] at HR7 ⊢
        clear x0 x1 x2 x3 hl1 hts
        have hz := blk_new wr (.cells #[.string x.f0.f0, .int .i64 x.f0.f1, .int .i64 x.f0.f2, .slice (some ⟨q, 0, none⟩) ts1.length cq] 46)
        have hb8 : Below wr.heap.size wr (wr.alloc (.cells #[.string x.f0.f0, .int .i64 x.f0.f1, .int .i64 x.f0.f2, .slice (some ⟨q, 0, none⟩) ts1.length cq] 46)) := below_alloc (Below.refl _ _) _
        generalize wr.alloc (.cells #[.string x.f0.f0, .int .i64 x.f0.f1, .int .i64 x.f0.f2, .slice (some ⟨q, 0, none⟩) ts1.length cq] 46) = W8 at *
        have HG8 := Aside0.mk (blk_below HG7.out hb8)
        have HR8 := Aside0.mk (blk_below HR7.out hb8)
        have HF8 := Aside0.mk (Kd.F_below HF7.out hb8)
        have HB8 := Aside0.mk (HB7.out.below HS7.out hb8)
        have HS8 := Aside0.mk (Nat.le_trans HS7.out hb8.size)
        obtain ⟨z, hzz⟩ : ∃ z, wr.heap.size = z := ⟨_, rfl⟩
        rw [hzz] at hz ⊢
        have HZ := Aside0.mk hz
        clear hz hb8 hzz HG7 HR7 HF7 HB7 HS7
        have y0 : W8.drew.cell? ⟨g, 0, none⟩ = some (.slice (some ⟨b, 0, none⟩) 1 cap) := (blk_cell HG8.out 0).trans rfl
        have z0 : W8.drew.cell? ⟨z, 0, none⟩ = some (.string x.f0.f0) := (blk_cell HZ.out 0).trans rfl
        have z1 : W8.drew.cell? ⟨z, 1, none⟩ = some (.int .i64 x.f0.f1) := (blk_cell HZ.out 1).trans rfl
        have z2 : W8.drew.cell? ⟨z, 2, none⟩ = some (.int .i64 x.f0.f2) := (blk_cell HZ.out 2).trans rfl
        have z3 : W8.drew.cell? ⟨z, 3, none⟩ = some (.slice (some ⟨q, 0, none⟩) ts1.length cq) := (blk_cell HZ.out 3).trans rfl
        refine start_ (n := 11) (S := fun w' => w'.cell? ⟨g, 0, none⟩ = some (.slice (some ⟨b, 0, none⟩) 1 cap) ∧ w'.cell? ⟨z, 0, none⟩ = some (.string x.f0.f0) ∧ w'.cell? ⟨z, 1, none⟩ = some (.int .i64 x.f0.f1) ∧ w'.cell? ⟨z, 2, none⟩ = some (.int .i64 x.f0.f2) ∧ w'.cell? ⟨z, 3, none⟩ = some (.slice (some ⟨q, 0, none⟩) ts1.length cq)) (ds := [10]) #[false, false, false, false, false, false, false, false, false, false, false] (by kernel_rfl) rfl rfl ⟨y0, z0, z1, z2, z3⟩ (fun hHeld => ?_)
        refine pure_ (i := 0) (N := some 58) (v := ?_) (a' := ?_) #[true, false, false, false, false, false, false, false, false, false, false] rfl rfl (by kernel_rfl) (fun _ _ _ h => h) (Or.inl ⟨by rfl, ?_⟩) ?_ ?_
        rotate_left
        · intro w'
          go_simp
          with_reducible rfl
        rotate_left
        · simp only [Act.put, List.setIfInBounds_toArray, List.set_cons_zero, List.set_cons_succ, i64_w, i32_w]
          rfl
        refine pure_ (i := 1) (N := some 59) (v := ?_) (a' := ?_) #[true, true, false, false, false, false, false, false, false, false, false] rfl rfl (by kernel_rfl) (fun _ _ _ h => h) (Or.inl ⟨by rfl, ?_⟩) ?_ ?_
        rotate_left
        · intro w'
          go_simp
          with_reducible rfl
        rotate_left
        · simp only [Act.put, List.setIfInBounds_toArray, List.set_cons_zero, List.set_cons_succ, i64_w, i32_w]
          rfl
        refine pure_ (i := 2) (N := some 60) (v := ?_) (a' := ?_) #[true, true, true, false, false, false, false, false, false, false, false] rfl rfl (by kernel_rfl) (fun _ _ _ h => h) (Or.inl ⟨by rfl, ?_⟩) ?_ ?_
        rotate_left
        · intro w'
          go_simp
          with_reducible rfl
        rotate_left
        · simp only [Act.put, List.setIfInBounds_toArray, List.set_cons_zero, List.set_cons_succ, i64_w, i32_w]
          rfl
        refine pure_ (i := 4) (N := some 62) (v := ?_) (a' := ?_) #[true, true, true, false, true, false, false, false, false, false, false] rfl rfl (by kernel_rfl) (fun _ _ _ h => h) (Or.inl ⟨by rfl, ?_⟩) ?_ ?_
        rotate_left
        · intro w'
          go_simp
          with_reducible rfl
        rotate_left
        · simp only [Act.put, List.setIfInBounds_toArray, List.set_cons_zero, List.set_cons_succ, i64_w, i32_w]
          rfl
        refine pure_ (i := 6) (N := some 64) (v := ?_) (a' := ?_) #[true, true, true, false, true, false, true, false, false, false, false] rfl rfl (by kernel_rfl) (fun _ _ _ h => h) (Or.inl ⟨by rfl, ?_⟩) ?_ ?_
        rotate_left
        · intro w'
          go_simp
          with_reducible rfl
        rotate_left
        · simp only [Act.put, List.setIfInBounds_toArray, List.set_cons_zero, List.set_cons_succ, i64_w, i32_w]
          rfl
        refine take_ (i := 3) (N := some 61) (v := ?_) (a' := ?_) #[true, true, true, true, true, false, true, false, false, false, false] rfl rfl (by kernel_rfl) (fun _ _ _ h => h) (Or.inl ⟨by rfl, ?_⟩) hHeld ?_ ?_
        rotate_left
        · rintro w' ⟨s0, s1, s2, s3, s4⟩
          go_simp
          with_reducible rfl
        rotate_left
        · simp only [Act.put, List.setIfInBounds_toArray, List.set_cons_zero, List.set_cons_succ, i64_w, i32_w]
          rfl
        refine take_ (i := 5) (N := some 63) (v := ?_) (a' := ?_) #[true, true, true, true, true, true, true, false, false, false, false] rfl rfl (by kernel_rfl) (fun _ _ _ h => h) (Or.inl ⟨by rfl, ?_⟩) hHeld ?_ ?_
        rotate_left
        · rintro w' ⟨s0, s1, s2, s3, s4⟩
          go_simp
          with_reducible rfl
        rotate_left
        · simp only [Act.put, List.setIfInBounds_toArray, List.set_cons_zero, List.set_cons_succ, i64_w, i32_w]
          rfl
        refine one_ (i := 7) (N := some 65) #[true, true, true, true, true, true, true, true, false, false, false] rfl rfl (by kernel_rfl) (by decide) (fun K hK => ?_)
        refine goes_ Tryd.func17 (by kernel_rfl) rfl #[.agg #[.string x.f0.f0, .int .i64 x.f0.f1, .int .i64 x.f0.f2, .slice (some ⟨q, 0, none⟩) ts1.length cq], .int .i64 now] (by rfl) rfl rfl (by simp only [List.map_toArray, List.map_cons, List.map_nil]; rfl) ?_
        with_reducible refine (row_within.calls x.f0.f0 x.f0.f1 x.f0.f2 ts1 (some ⟨q, 0, none⟩) cq now _ rfl _ (Kd.F_now (Kd.F_drew HF8.out)) HCQ.out HL1.out).mono ?_
        rintro e w9 ⟨A9, rfl, hC9, hb9⟩
        refine ⟨_, rfl, ?_⟩
        have HG9 := Aside0.mk (blk_below (blk_drew HG8.out) hb9)
        have HR9 := Aside0.mk (blk_below (blk_drew HR8.out) hb9)
        have HF9 := Aside0.mk (Kd.F_imp (Kd.F_below (Kd.F_drew HF8.out) hb9) hC9)
        have HB9 := Aside0.mk (HB8.out.drew.below HS8.out hb9)
        have hz9 := blk_below (blk_drew HZ.out) hb9
        have fz9 := blk_frozen HR9.out 3
        have v9 := (blk_cell HR9.out 3).trans (rowU_3 x _ rest)
        clear hb9 hC9
        refine hK.out _ _ ⟨(blk_cell HG9.out 0).trans rfl, (blk_cell hz9 0).trans rfl, (blk_cell hz9 1).trans rfl, (blk_cell hz9 2).trans rfl, (blk_cell hz9 3).trans rfl⟩ (fun hHeld => ?_)
        clear hK K
        refine norm_ (a' := ?_) ?_ ?_
        rotate_left
        · show Act.put _ (some 65) _ = _
          simp only [Act.put, List.setIfInBounds_toArray, List.set_cons_zero, List.set_cons_succ, i64_w, i32_w]
          rfl
        refine pure_ (i := 8) (N := some 66) (v := ?_) (a' := ?_) #[true, true, true, true, true, true, true, true, true, false, false] rfl rfl (by kernel_rfl) (fun _ _ _ h => h) (Or.inl ⟨by rfl, ?_⟩) ?_ ?_
        rotate_left
        · intro w'
          go_simp
          with_reducible rfl
        rotate_left
        · simp only [Act.put, List.setIfInBounds_toArray, List.set_cons_zero, List.set_cons_succ, i64_w, i32_w]
          rfl
        refine pure_ (i := 9) (N := some 67) (v := ?_) (a' := ?_) #[true, true, true, true, true, true, true, true, true, true, false] rfl rfl (by kernel_rfl) (fun _ _ _ h => h) (Or.inl ⟨by rfl, ?_⟩) ?_ ?_
        rotate_left
        · intro w'
          go_simp
          with_reducible rfl
        rotate_left
        · simp only [Act.put, List.setIfInBounds_toArray, List.set_cons_zero, List.set_cons_succ, i64_w, i32_w]
          rfl
        refine last_ (i := 10) (N := none) #[true, true, true, true, true, true, true, true, true, true, true] rfl rfl (by kernel_rfl) (by decide) (fun K hK => ?_)
        refine skip_ (w1 := ?_) (by rfl) rfl ?_ ?_
        rotate_left
        · go_simp
          rfl
        refine hK.out _ _ ?_
        clear hK K
        refine done_ (by kernel_rfl) ?_
        have hgA := blk_far HG9.out (p := ⟨b, 3, none⟩) HNE.out (.slice A9 (withinL ts1 (wrap64 (now - x.f0.f2))).length (withinL ts1 (wrap64 (now - x.f0.f2))).length)
        have hrA := blk_put HR9.out 3 (.slice A9 (withinL ts1 (wrap64 (now - x.f0.f2))).length (withinL ts1 (wrap64 (now - x.f0.f2))).length) (rowU_put x _ _ rest)
        have hfA := Kd.F_far HF9.out (p := ⟨b, 3, none⟩) (fun k hk => hk.1.2) (.slice A9 (withinL ts1 (wrap64 (now - x.f0.f2))).length (withinL ts1 (wrap64 (now - x.f0.f2))).length)
        have hBA := HB9.out.set (p := ⟨b, 3, none⟩) HGE.out.2 (.inr rfl) (.slice A9 (withinL ts1 (wrap64 (now - x.f0.f2))).length (withinL ts1 (wrap64 (now - x.f0.f2))).length)
        have HIS := Aside0.mk (show IsG base ok (w9.setCell ⟨b, 3, none⟩ (.slice A9 (withinL ts1 (wrap64 (now - x.f0.f2))).length (withinL ts1 (wrap64 (now - x.f0.f2))).length)) g b ⟨x.f0, withinL ts1 (wrap64 (now - x.f0.f2))⟩ now from ⟨cap, A9, rest, hgA, hrA, HCAP.out, HGE.out.1, HGE.out.2, hfA⟩)
        have HBA := Aside0.mk hBA
        clear hgA hrA hfA hBA hHeld v9 fz9 hz9
        rw [← HTS1.out] at HIS HBA ⊢
        go_wp2
        go_roundw
        case rel => exact .inr ⟨rfl, HIS, HBA⟩
        case measure => simp [intOf]
end Go.Proofs.YtchfkkpghipeiaaDoor.Q
