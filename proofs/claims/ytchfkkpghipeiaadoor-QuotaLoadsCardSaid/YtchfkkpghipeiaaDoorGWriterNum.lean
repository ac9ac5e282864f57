/- (*field.Writer).Num: eight bytes more, by hand. -/
import Derived.Test.YtchfkkpghipeiaaDoorQx0
import Derived.Lib.SliceRun
import Derived.Lib.Hide
import Derived.Outline
namespace Go.Proofs.YtchfkkpghipeiaaDoor.Q
open Go.RowKit Go.Proofs.YtchfkkpghipeiaaDoorW.PrintWords Go.Proofs.YtchfkkpghipeiaaDoorW.PrintLast Go.Proofs.YtchfkkpghipeiaaDoorW.PrintMore
set_option linter.unusedVariables false
set_option linter.unusedSimpArgs false

/-- A writer at block g: its row is the call's own. -/
def IsWT (T : TypeId) (w0 W : World) (g : Nat) (v : Value) (xs : List Int) : Prop := W.heap[g]? = some (.cells #[v] T (0, 0)) ∧ w0.heap.size ≤ g ∧ Kd.R (Kd.int .u8) 5 W w0.heap.size (fun _ => True) v xs
abbrev IsW := IsWT 54
/-- What a writer's call leaves: its row grown, or a new one. -/
def OwnNext (w : World) (v v' : Value) : Prop := v'.ownBlock = v.ownBlock ∨ ∃ b, v'.ownBlock = some b ∧ w.heap.size ≤ b

def nb (m i : Int) : Int := IntKind.u8.wrap (m / 2 ^ (8 * i).toNat)
def nbs (m : Int) (j : Nat) : List Int := (List.range j).map fun (t : Nat) => nb m (7 - (t : Int))
theorem nbs_succ (m : Int) (j : Nat) : nbs m (j + 1) = nbs m j ++ [nb m (7 - (j : Int))] := by simp [nbs, List.range_succ]
theorem infoW : (Tryd.prog.info? 5).map (fun i => (i.zero, i.size, i.bytes)) = some (some (.int .u8 0), 1, 1) := by kernel_rfl
theorem own_next {w W : World} {v u u2 : Value} (hw : w.heap.size ≤ W.heap.size) (h : OwnNext w v u) (k : u2.ownBlock = u.ownBlock ∨ ∃ b, u2.ownBlock = some b ∧ W.heap.size ≤ b) : OwnNext w v u2 := by
  rcases k with k | ⟨b, k, kb⟩
  · rcases h with h | ⟨b, h, hb⟩
    · exact .inl (k.trans h)
    · exact .inr ⟨b, k.trans h, hb⟩
  · exact .inr ⟨b, k, by omega⟩
theorem keep_any {w W : World} {g : Nat} (h : KeepBut w W g none) (row : Option Nat) : KeepBut w W g row := ⟨h.1, fun i hi hg _ => h.2 i hi hg (by simp)⟩
def clampN (n : Int) : Int := mn (mx n 0) 4611686018427387904

theorem clamp_a {n : Int} (h : 4611686018427387904 < if n < 0 then 0 else n) : 4611686018427387904 = clampN n := by unfold clampN mn mx; rw [if_pos h]
theorem clamp_b {n : Int} (h : n < 0) : 0 = clampN n := by unfold clampN mn mx; rw [if_pos h]; rfl
theorem clamp_c {n : Int} (h : 0 ≤ n) (h2 : (if n < 0 then 0 else n) ≤ 4611686018427387904) : n = clampN n := by
  have e : (if n < 0 then 0 else n) = n := if_neg (by omega)
  unfold clampN mn mx
  rw [e] at h2 ⊢
  rw [if_neg (by omega)]
theorem ne_u8 {T : TypeId} (hT : 5 ≠ T) : ∀ q, q ∈ 5 :: (Kd.int .u8).E → q ≠ T := fun q hq => by
  simp [Kd.int, Kd.scalar] at hq
  rw [hq]
  exact hT
set_option maxHeartbeats 1000000 in
set_option maxRecDepth 100000 in
theorem writer_Num.callsT (T : TypeId) (hT : 5 ≠ T) (g : Nat) (v : Value) (xs : List Int) (n : Int) (w0 w : World) (hI : IsWT T w0 w g v xs) (hB : Below w0.heap.size w0 w) (hn : -9223372036854775808 ≤ n ∧ n ≤ 9223372036854775807) (hx : xs.length < 100000000) :
    Calls Tryd.prog 18 #[.pointer (some ⟨g, 0, none⟩), .int .i64 n] w fun e w' => ∃ v', e = .returned (.tuple #[]) ∧ IsWT T w0 w' g v' (xs ++ nbs (clampN n) 8) ∧ Below w0.heap.size w0 w' ∧ KeepBut w w' g v.ownBlock ∧ OwnNext w v v' := by
  have HI := Aside0.mk hI
  have HB := Aside0.mk hB
  clear hI hB
  go_enter Tryd.func18, Tryd.ntmps18
  go_upto_region 0 with (fail)
  go_cut [4] (fun v4 wc => v4 = .int .u64 (clampN n) ∧ w = wc)
  case first =>
    go_wp2
    all_goals go_meet
    all_goals (refine ⟨congrArg (Value.int .u64) ?_, rfl⟩; first | exact clamp_a (by assumption) | exact clamp_b (by assumption) | exact clamp_c (by assumption) (by assumption))
  case rest =>
  obtain ⟨rfl, rfl⟩ := hcut
  generalize hm : clampN n = m
  go_wp2
  go_loopw [5] (fun v5 W => ∃ (j : Nat) (u : Value), j ≤ 8 ∧ v5 = .int .i64 (7 - j) ∧ Aside0 (IsWT T w0 W g u (xs ++ nbs m j)) ∧ Aside0 (Below w0.heap.size w0 W) ∧ Aside0 (KeepBut w W g v.ownBlock) ∧ Aside0 (OwnNext w v u)) (fun v5 _ => (intOf v5 + 1).toNat)
  case atStart => exact ⟨0, v, by omega, rfl, ⟨by have := HI.out; simpa [nbs] using this⟩, HB, ⟨KeepBut.refl w g _⟩, ⟨.inl rfl⟩⟩
  case round =>
    clear HI HB
    obtain ⟨j, u, hj, rfl, HI, HB, HK, HN⟩ := hrel
    by_cases hlt : j < 8
    · obtain ⟨i, hi⟩ : ∃ i : Int, 7 - (j : Int) = i := ⟨_, rfl⟩
      rw [hi]
      have HJ := Aside0.mk (show nb m i = nb m (7 - (j : Int)) by rw [hi])
      have HL := Aside0.mk (show ((xs ++ nbs m j).length + 1) * 1 ≤ 140737488355328 by simp [nbs]; omega)
      have i0 : 0 ≤ i := by omega
      have i7 : i ≤ 7 := by omega
      have q0 : decide (0 ≤ i) = true := decide_eq_true i0
      have q1 : wrap64 (8 * i) = 8 * i := by unfold wrap64; omega
      have q2 : IntKind.i64.wrap (8 * i) = 8 * i := by rw [IntKind.wrap_i64]; omega
      have q3 : ¬ (8 * i < 0) := by omega
      go_upto_region 4 with (fail)
      obtain ⟨hg, hge, hR⟩ := HI.out
      have HG := Aside0.mk hg
      have HGE := Aside0.mk hge
      have HU := Aside0.mk hR
      have HCELL := Aside0.mk (show wr.drew.cell? ⟨g, 0, none⟩ = some u from (blk_cell hg 0).trans rfl)
      clear hg hge hR
      refine start_ (n := 15) (S := fun w' => w'.cell? ⟨g, 0, none⟩ = some u) (ds := [14]) #[false, false, false, false, false, false, false, false, false, false, false, false, false, false, false] (by kernel_rfl) rfl rfl (HCELL.out) (fun hHeld => ?_)
      refine pure_ (i := 0) (N := some 14) (v := ?_) (a' := ?_) #[true, false, false, false, false, false, false, false, false, false, false, false, false, false, false] rfl rfl (by kernel_rfl) (fun _ _ _ h => h) (Or.inl ⟨by rfl, ?_⟩) ?_ ?_
      rotate_left
      · intro w'
        go_simp
        with_reducible rfl
      rotate_left
      · simp only [Act.put, List.setIfInBounds_toArray, List.set_cons_zero, List.set_cons_succ, i64_w, i32_w]
        rfl
      refine pure_ (i := 1) (N := some 15) (v := ?_) (a' := ?_) #[true, true, false, false, false, false, false, false, false, false, false, false, false, false, false] rfl rfl (by kernel_rfl) (fun _ _ _ h => h) (Or.inl ⟨by rfl, ?_⟩) ?_ ?_
      rotate_left
      · intro w'
        go_simp
        with_reducible rfl
      rotate_left
      · simp only [Act.put, List.setIfInBounds_toArray, List.set_cons_zero, List.set_cons_succ, i64_w, i32_w]
        rfl
      refine pure_ (i := 2) (N := some 16) (v := ?_) (a' := ?_) #[true, true, true, false, false, false, false, false, false, false, false, false, false, false, false] rfl rfl (by kernel_rfl) (fun _ _ _ h => h) (Or.inl ⟨by rfl, ?_⟩) ?_ ?_
      rotate_left
      · intro w'
        go_simp
        with_reducible rfl
      rotate_left
      · simp only [Act.put, List.setIfInBounds_toArray, List.set_cons_zero, List.set_cons_succ, i64_w, i32_w]
        rfl
      refine pure_ (i := 3) (N := some 17) (v := ?_) (a' := ?_) #[true, true, true, true, false, false, false, false, false, false, false, false, false, false, false] rfl rfl (by kernel_rfl) (fun _ _ _ h => h) (Or.inl ⟨by rfl, ?_⟩) ?_ ?_
      rotate_left
      · intro w'
        go_simp
        with_reducible rfl
      rotate_left
      · simp only [Act.put, List.setIfInBounds_toArray, List.set_cons_zero, List.set_cons_succ, i64_w, i32_w]
        rfl
      refine pure_ (i := 5) (N := some 19) (v := ?_) (a' := ?_) #[true, true, true, true, false, true, false, false, false, false, false, false, false, false, false] rfl rfl (by kernel_rfl) (fun _ _ _ h => h) (Or.inl ⟨by rfl, ?_⟩) ?_ ?_
      rotate_left
      · intro w'
        go_simp
        with_reducible rfl
      rotate_left
      · simp only [Act.put, List.setIfInBounds_toArray, List.set_cons_zero, List.set_cons_succ, i64_w, i32_w]
        rfl
      refine pure_ (i := 6) (N := some 20) (v := ?_) (a' := ?_) #[true, true, true, true, false, true, true, false, false, false, false, false, false, false, false] rfl rfl (by kernel_rfl) (fun _ _ _ h => h) (Or.inl ⟨by rfl, ?_⟩) ?_ ?_
      rotate_left
      · intro w'
        go_simp
        with_reducible rfl
      rotate_left
      · simp only [Act.put, List.setIfInBounds_toArray, List.set_cons_zero, List.set_cons_succ, i64_w, i32_w]
        rfl
      refine pure_ (i := 7) (N := some 21) (v := ?_) (a' := ?_) #[true, true, true, true, false, true, true, true, false, false, false, false, false, false, false] rfl rfl (by kernel_rfl) (fun _ _ _ h => h) (Or.inl ⟨by rfl, ?_⟩) ?_ ?_
      rotate_left
      · intro w'
        go_simp
        with_reducible rfl
      rotate_left
      · simp only [Act.put, List.setIfInBounds_toArray, List.set_cons_zero, List.set_cons_succ, i64_w, i32_w]
        rfl
      refine pure_ (i := 8) (N := some 22) (v := ?_) (a' := ?_) #[true, true, true, true, false, true, true, true, true, false, false, false, false, false, false] rfl rfl (by kernel_rfl) (fun _ _ _ h => h) (Or.inl ⟨by rfl, ?_⟩) ?_ ?_
      rotate_left
      · intro w'
        go_simp
        with_reducible rfl
      rotate_left
      · simp only [Act.put, List.setIfInBounds_toArray, List.set_cons_zero, List.set_cons_succ, i64_w, i32_w]
        rfl
      refine pure_ (i := 9) (N := some 23) (v := ?_) (a' := ?_) #[true, true, true, true, false, true, true, true, true, true, false, false, false, false, false] rfl rfl (by kernel_rfl) (fun _ _ _ h => h) (Or.inl ⟨by rfl, ?_⟩) ?_ ?_
      rotate_left
      · intro w'
        go_simp
        with_reducible rfl
      rotate_left
      · simp only [Act.put, List.setIfInBounds_toArray, List.set_cons_zero, List.set_cons_succ, i64_w, i32_w]
        rfl
      refine take_ (i := 4) (N := some 18) (v := ?_) (a' := ?_) #[true, true, true, true, true, true, true, true, true, true, false, false, false, false, false] rfl rfl (by kernel_rfl) (fun _ _ _ h => h) (Or.inl ⟨by rfl, ?_⟩) hHeld ?_ ?_
      rotate_left
      · intro w' s0
        go_simp
        with_reducible rfl
      rotate_left
      · simp only [Act.put, List.setIfInBounds_toArray, List.set_cons_zero, List.set_cons_succ, i64_w, i32_w]
        rfl
      refine one_ (i := 10) (N := some 24) #[true, true, true, true, true, true, true, true, true, true, true, false, false, false, false] rfl rfl (by kernel_rfl) (by decide) (fun K hK => ?_)
      refine Kd.R_lit_step (Kd.int .u8) _ 5 ?hg (N := 24) ?hd (xs := ([nb m i] : List Int)) (inner := [.int .u8 (nb m i)]) (ok := fun _ => True) (okp := fun _ => True) ?hr ?hp (fun _ hk => hk) trivial (Below.refl _ _) (Nat.le_refl _) (by simp) ?_; (case hd => rfl); (case hg => rfl); (case hr => first | (go_simp; done) | (go_simp; rfl)); (case hp => exact (Reps.one (show Kd.M (Kd.int .u8) _ _ _ (nb m i) [.int .u8 (nb m i)] from rfl) (Reps.none _ _)))
      intro v1 w1 ho1 hb1 hg1 hn1
      obtain ⟨A1, c1, e1⟩ := Kd.R_slice ho1
      subst e1
      have HO1 := Aside0.mk ho1
      have HU1 := Aside0.mk (Kd.R_below (Kd.R_drew HU.out) hb1)
      have HG1 := Aside0.mk (blk_grown (show wr.drew.heap[g]? = _ from HG.out) (grown_of_below hb1 none) (by simp))
      have HB1 := Aside0.mk (below_step (below_drew1 HB.out) hb1)
      have HK1 := Aside0.mk (KeepBut.trans (keep_drew HK.out) (keep_any (KeepBut.of_grown (grown_of_below hb1 none) g) v.ownBlock) (.inl rfl))
      have HS1 := Aside0.mk (show w1.cell? ⟨g, 0, none⟩ = some u from (blk_cell HG1.out 0).trans rfl)
      clear ho1 hb1 hg1 hn1
      refine hK.out _ _ HS1.out (fun hHeld => ?_)
      clear hK K
      refine norm_ (a' := ?_) ?_ ?_
      rotate_left
      · show Act.put _ (some 24) _ = _
        simp only [Act.put, List.setIfInBounds_toArray, List.set_cons_zero, List.set_cons_succ, i64_w, i32_w]
        rfl
      refine one_ (i := 11) (N := some 25) #[true, true, true, true, true, true, true, true, true, true, true, true, false, false, false] rfl rfl (by kernel_rfl) (by decide) (fun K hK => ?_)
      refine Kd.R_append_rows_step (Kd.int .u8) (w0 := w0) w0.heap.size (by rfl) (.tmp 18) (.tmp 24) 35 5 (.int .u8 0) 1 rfl Tryd.underlying35 infoW rfl (by decide) (by omega) u (xs ++ nbs m j) [nb m i] _ _ _ (fun _ => True) (fun _ => False) rfl rfl HU1.out (Kd.R_reads' HO1.out).2.2 (fun _ _ h => h) (fun _ h => h.elim) (fun _ _ => trivial) HB1.out HB1.out.size HL.out ?_
      intro v2 w2 ho2 hb2 hgr hat
      obtain ⟨A2, c2, e2⟩ := Kd.R_slice ho2
      subst e2
      have HG2 := Aside0.mk (blk_grown HG1.out hgr (Kd.R_ne HU1.out HG1.out hT))
      have HO2 := Aside0.mk ho2
      have HB2 := Aside0.mk hb2
      have HK2 := Aside0.mk (KeepBut.trans HK1.out (KeepBut.of_grown hgr g) HN.out)
      have HN2 := Aside0.mk (own_next (Nat.le_trans (Nat.le_of_lt_succ (Nat.lt_succ_of_le HK1.out.1)) (Nat.le_refl _)) HN.out hat)
      have HS2 := Aside0.mk (show w2.cell? ⟨g, 0, none⟩ = some u from (blk_cell HG2.out 0).trans rfl)
      have hf2 := blk_frozen HG2.out 0
      clear ho2 hb2 hgr hat
      refine hK.out _ _ HS2.out (fun hHeld => ?_)
      clear hK K
      refine norm_ (a' := ?_) ?_ ?_
      rotate_left
      · show Act.put _ (some 25) _ = _
        simp only [Act.put, List.setIfInBounds_toArray, List.set_cons_zero, List.set_cons_succ, i64_w, i32_w]
        rfl
      refine pure_ (i := 12) (N := some 26) (v := ?_) (a' := ?_) #[true, true, true, true, true, true, true, true, true, true, true, true, true, false, false] rfl rfl (by kernel_rfl) (fun _ _ _ h => h) (Or.inl ⟨by rfl, ?_⟩) ?_ ?_
      rotate_left
      · intro w'
        go_simp
        with_reducible rfl
      rotate_left
      · simp only [Act.put, List.setIfInBounds_toArray, List.set_cons_zero, List.set_cons_succ, i64_w, i32_w]
        rfl
      refine pure_ (i := 13) (N := some 27) (v := ?_) (a' := ?_) #[true, true, true, true, true, true, true, true, true, true, true, true, true, true, false] rfl rfl (by kernel_rfl) (fun _ _ _ h => h) (Or.inl ⟨by rfl, ?_⟩) ?_ ?_
      rotate_left
      · intro w'
        go_simp
        with_reducible rfl
      rotate_left
      · simp only [Act.put, List.setIfInBounds_toArray, List.set_cons_zero, List.set_cons_succ, i64_w, i32_w]
        rfl
      refine last_ (i := 14) (N := none) #[true, true, true, true, true, true, true, true, true, true, true, true, true, true, true] rfl rfl (by kernel_rfl) (by decide) (fun K hK => ?_)
      refine skip_ (w1 := ?_) (by rfl) rfl ?_ ?_
      rotate_left
      · go_simp
        rfl
      refine hK.out _ _ ?_
      clear hK K
      refine done_ (by kernel_rfl) ?_
      go_wp2
      go_roundw
      case rel => exact ⟨j + 1, _, by omega, by first | go_num | (congr 1; unfold wrap64; omega), ⟨by rw [nbs_succ, ← List.append_assoc, ← HJ.out]; exact ⟨by simpa using blk_set HG2.out 0 _, HGE.out, Kd.R_set HO2.out HG2.out (ne_u8 hT) 0 _⟩⟩, ⟨below_set HB2.out HGE.out⟩, ⟨KeepBut.set_ HK2.out 0 _⟩, HN2⟩
      case measure => simp [intOf]; omega
    · have hj8 : j = 8 := by omega
      subst hj8
      rw [show (7 : Int) - ((8 : Nat) : Int) = -1 from rfl]
      go_wp2
      go_end0
      exact ⟨u, rfl, by rw [hm]; exact HI.out, HB.out, HK.out, HN.out⟩
theorem writer_Num.calls (g : Nat) (v : Value) (xs : List Int) (n : Int) (w0 w : World) (hI : IsW w0 w g v xs) (hB : Below w0.heap.size w0 w) (hn : -9223372036854775808 ≤ n ∧ n ≤ 9223372036854775807) (hx : xs.length < 100000000) :
    Calls Tryd.prog 18 #[.pointer (some ⟨g, 0, none⟩), .int .i64 n] w fun e w' => ∃ v', e = .returned (.tuple #[]) ∧ IsW w0 w' g v' (xs ++ nbs (clampN n) 8) ∧ Below w0.heap.size w0 w' ∧ KeepBut w w' g v.ownBlock ∧ OwnNext w v v' :=
  writer_Num.callsT _ (by decide) g v xs n w0 w hI hB hn hx
end Go.Proofs.YtchfkkpghipeiaaDoor.Q
