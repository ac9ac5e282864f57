/- state.Def: the definition of a name in a state, owned. -/
import Derived.Test.YtookpfpmobbhiaaGStateOwn
namespace Go.Proofs.Ytookpfpmobbhiaa.Q
open Go.RowKit Go.Shelf Go.Proofs.YtookpfpmobbhiaaW.PrintWords Go.Proofs.YtookpfpmobbhiaaW.PrintLast Go.Proofs.YtookpfpmobbhiaaW.PrintMore
set_option linter.unusedVariables false
set_option linter.unusedSimpArgs false

theorem firstI_none {α : Type} (p : α → Bool) : ∀ (l : List α) (j : Int), l.find? p = none → firstI p l j = -1
  | [], _, _ => rfl
  | a :: l, j, h => by
    rw [List.find?_cons] at h
    cases ha : p a with
    | true => rw [ha] at h; cases h
    | false => rw [ha] at h; rw [firstI, ha]; exact firstI_none p l _ h
theorem firstI_some {α : Type} (p : α → Bool) (d : α) : ∀ (l : List α) (j : Int), l.find? p = some d → ∃ k : Nat, ∃ hk : k < l.length, firstI p l j = j + k ∧ l[k] = d
  | [], _, h => by cases h
  | a :: l, j, h => by
    rw [List.find?_cons] at h
    cases ha : p a with
    | true =>
      rw [ha] at h
      exact ⟨0, Nat.zero_lt_succ _, by rw [firstI, ha]; simp, Option.some.inj h⟩
    | false =>
      rw [ha] at h
      obtain ⟨k, hk, e1, e2⟩ := firstI_some p d l (j + 1) h
      exact ⟨k + 1, Nat.succ_lt_succ hk, by rw [firstI, ha, if_neg (by simp), e1]; push_cast; omega, e2⟩

/-- The definition of a name; none: the zero one. -/
def defOf (l : List S28) (s : ByteArray) : S28 := (l.find? (isNamed s)).getD ⟨⟨#[]⟩, 0, []⟩

set_option maxHeartbeats 1000000 in
set_option maxRecDepth 100000 in
theorem state_Def.calls (A0_0 : Option Addr) (c0_0 : Nat) (l0_0 : List S28) (A0_1 : Option Addr) (c0_1 : Nat) (n : Nat) (a0_2 : Int) (s : ByteArray) (w : World) (hr : Kd.C k28 w A0_0 l0_0.length l0_0) (hl : l0_0.length < 1000000) (hst : ∀ d ∈ l0_0, d.f2.length < 1000000) :
    Calls Try.prog 30 #[.agg #[.slice A0_0 l0_0.length c0_0, .slice A0_1 n c0_1, .int .i64 a0_2], .string s] w fun e w' => ∃ A c b, e = .returned (.tuple #[.agg #[.string (defOf l0_0 s).f0, .int .i64 (defOf l0_0 s).f1, .slice A (defOf l0_0 s).f2.length c], .bool b]) ∧ Kd.C k49 w' A (defOf l0_0 s).f2.length (defOf l0_0 s).f2 ∧ (defOf l0_0 s).f2.length ≤ c ∧ Below w.heap.size w w' := by
  have HR := Aside0.mk hr
  have HL := Aside0.mk hl
  have HS := Aside0.mk hst
  clear hr hl hst
  go_enter Try.func30, Try.ntmps30
  go_upto_region 1 with (fail)
  have z2 := blk_new (w.alloc (.cells #[.slice A0_0 l0_0.length c0_0, .slice A0_1 n c0_1, .int .i64 a0_2] 25)) (.cells #[.string ⟨#[]⟩, .int .i64 0, .slice none 0 0] 28)
  rw [World.size_alloc] at z2
  have z1 := blk_alloc (blk_new w (.cells #[.slice A0_0 l0_0.length c0_0, .slice A0_1 n c0_1, .int .i64 a0_2] 25)) (.cells #[.string ⟨#[]⟩, .int .i64 0, .slice none 0 0] 28)
  have HB2 := Aside0.mk (((Below.refl w.heap.size w).alloc (Nat.le_refl _) (.cells #[.slice A0_0 l0_0.length c0_0, .slice A0_1 n c0_1, .int .i64 a0_2] 25)).alloc (by simp) (.cells #[.string ⟨#[]⟩, .int .i64 0, .slice none 0 0] 28))
  generalize (w.alloc (.cells #[.slice A0_0 l0_0.length c0_0, .slice A0_1 n c0_1, .int .i64 a0_2] 25)).alloc (.cells #[.string ⟨#[]⟩, .int .i64 0, .slice none 0 0] 28) = W2 at *
  obtain ⟨q, hq⟩ : ∃ q, w.heap.size = q := ⟨_, rfl⟩
  have HQ := Aside0.mk hq
  rw [hq] at z1 z2 ⊢
  clear hq
  have HQ1 : Aside0 (w.heap.size ≤ q + 1) := ⟨by rw [HQ.out]; exact Nat.le_succ q⟩
  have y2 : W2.cell? ⟨q, 0, none⟩ = some (.slice A0_0 l0_0.length c0_0) := (blk_cell z1 0).trans rfl
  have Z1 := Aside0.mk z1
  have Z2 := Aside0.mk z2
  clear z1 z2
  go_upto_region 2 with (first | (go_at_call 39; refine (find_Def.calls s A0_0 c0_0 l0_0 _ (Kd.C_below HR.out HB2.out) HL.out).mono ?_; rintro e w3 ⟨rfl, hb⟩; have HB3 := Aside0.mk (below_step HB2.out hb); have Z13 := Aside0.mk (blk_below Z1.out hb); have Z23 := Aside0.mk (blk_below Z2.out hb); clear hb Z1 Z2 y2))
  have z23 := Z23.out
  have f0 := blk_frozen z23 0
  have f1 := blk_frozen z23 1
  have f2 := blk_frozen z23 2
  have y0 : w3.cell? ⟨q + 1, 0, none⟩ = some (.string ⟨#[]⟩) := (blk_cell z23 0).trans rfl
  have y1 : w3.cell? ⟨q + 1, 1, none⟩ = some (.int .i64 0) := (blk_cell z23 1).trans rfl
  have y2 : w3.cell? ⟨q + 1, 2, none⟩ = some (.slice none 0 0) := (blk_cell z23 2).trans rfl
  clear z23
  cases hf : l0_0.find? (isNamed s) with
  | none =>
    have hd : defOf l0_0 s = ⟨⟨#[]⟩, 0, []⟩ := by unfold defOf; rw [hf]; rfl
    rw [firstI_none _ _ _ hf]
    go_wp2
    refine bodyPost_ret (results_ct rfl _ _ (q + 1) 28 #[.string ⟨#[]⟩, .int .i64 0, .slice none 0 0] (0, 0) _ rfl (blk_put (blk_put (blk_put Z23.out 0 (.string ⟨#[]⟩) (cs' := #[.string ⟨#[]⟩, .int .i64 0, .slice none 0 0]) rfl) 1 (.int .i64 0) (cs' := #[.string ⟨#[]⟩, .int .i64 0, .slice none 0 0]) rfl) 2 (.slice none 0 0) (cs' := #[.string ⟨#[]⟩, .int .i64 0, .slice none 0 0]) rfl) Try.underlying28 rfl (by kernel_rfl)) rfl ?_
    rw [hd]
    exact ⟨none, 0, false, rfl, (Kd.R_reads' (Kd.R_nil k49 49 _ 0 (fun _ => True))).2.2, Nat.le_refl _, ((HB3.out.setCell (p := ⟨q + 1, 0, none⟩) HQ1.out _).setCell (p := ⟨q + 1, 1, none⟩) HQ1.out _).setCell (p := ⟨q + 1, 2, none⟩) HQ1.out _⟩
  | some d =>
    have hd : defOf l0_0 s = d := by unfold defOf; rw [hf]; rfl
    obtain ⟨k, hk, ek, edk⟩ := firstI_some _ d _ 0 hf
    rw [ek]
    have hmem : d ∈ l0_0 := by rw [← edk]; exact List.getElem_mem hk
    have HLD := Aside0.mk (HS.out d hmem)
    obtain ⟨ad, A2, c2, e, x0, x1, x2, hc2, hr2⟩ := at_T28 HR.out (k : Int) (by omega) (by omega)
    have hX : rd_T28 l0_0 (k : Int) = d := by
      rw [← edk]
      unfold rd_T28
      rw [Int.toNat_natCast, List.getD_eq_getElem?_getD, List.getElem?_eq_getElem hk]
      rfl
    rw [hX] at x0 x1 x2 hc2 hr2
    cases e
    replace x0 := (HB3.out.cell (World.block_lt_of_cell? w _ x0)).trans x0
    replace x1 := (HB3.out.cell (World.block_lt_of_cell? w _ x1)).trans x1
    replace x2 := (HB3.out.cell (World.block_lt_of_cell? w _ x2)).trans x2
    have HR2 := Aside0.mk (Kd.C_below hr2 HB3.out)
    have HC2 := Aside0.mk hc2
    clear hr2 hc2 hX hmem edk
    obtain ⟨i, hi⟩ : ∃ i : Int, (k : Int) = i := ⟨_, rfl⟩
    rw [show (0 : Int) + (k : Int) = i by omega]
    rw [hi] at x0 x1 x2
    have hp1 : (0 ≤ i) = True := eq_true (by omega)
    have hq1 : (i < (l0_0.length : Int)) = True := eq_true (by omega)
    have hd1 : decide (0 ≤ i) = true := decide_eq_true (by omega)
    have v0 : w3.cell? ⟨q, 0, none⟩ = some (.slice (some ad) l0_0.length c0_0) := (blk_cell Z13.out 0).trans rfl
    clear hi ek
    go_wp2_with (first | (go_at_call 41; refine (def_Own.calls d.f0 d.f1 A2 c2 d.f2 _ HR2.out HLD.out).mono ?_; rintro e w4 ⟨A4, c4, n4, rfl, hR4, hC4, hb⟩; have HR4 := Aside0.mk hR4; have HC4 := Aside0.mk hC4; have HB4 := Aside0.mk (below_step HB3.out hb); have Z24 := Aside0.mk (blk_below Z23.out hb); have c0 : w4.cell? ⟨q + 1, 0, none⟩ = some (.string ⟨#[]⟩) := (blk_cell Z24.out 0).trans rfl; have c1 : w4.cell? ⟨q + 1, 1, none⟩ = some (.int .i64 0) := (blk_cell Z24.out 1).trans rfl; have c2 : w4.cell? ⟨q + 1, 2, none⟩ = some (.slice none 0 0) := (blk_cell Z24.out 2).trans rfl; have g0 := blk_frozen Z24.out 0; have g1 := blk_frozen Z24.out 1; have g2 := blk_frozen Z24.out 2; clear hb hR4 hC4))
    refine bodyPost_ret (results_ct rfl _ _ (q + 1) 28 #[.string d.f0, .int .i64 d.f1, .slice A4 d.f2.length c4] (0, 0) _ rfl (blk_put (blk_put (blk_put Z24.out 0 (.string d.f0) (cs' := #[.string d.f0, .int .i64 0, .slice none 0 0]) rfl) 1 (.int .i64 d.f1) (cs' := #[.string d.f0, .int .i64 d.f1, .slice none 0 0]) rfl) 2 (.slice A4 d.f2.length c4) (cs' := #[.string d.f0, .int .i64 d.f1, .slice A4 d.f2.length c4]) rfl) Try.underlying28 rfl (by kernel_rfl)) rfl ?_
    have HO5 := Kd.R_set HR4.out Z24.out (by decide) 0 (.string d.f0)
    have b5 := blk_put Z24.out 0 (.string d.f0) (cs' := #[.string d.f0, .int .i64 0, .slice none 0 0]) rfl
    have HO6 := Kd.R_set HO5 b5 (by decide) 1 (.int .i64 d.f1)
    have b6 := blk_put b5 1 (.int .i64 d.f1) (cs' := #[.string d.f0, .int .i64 d.f1, .slice none 0 0]) rfl
    have HO7 := Kd.R_set HO6 b6 (by decide) 2 (.slice A4 d.f2.length c4)
    rw [hd]
    exact ⟨A4, c4, true, rfl, (Kd.R_reads' HO7).2.2, HC4.out, ((HB4.out.setCell (p := ⟨q + 1, 0, none⟩) HQ1.out _).setCell (p := ⟨q + 1, 1, none⟩) HQ1.out _).setCell (p := ⟨q + 1, 2, none⟩) HQ1.out _⟩
end Go.Proofs.Ytookpfpmobbhiaa.Q
