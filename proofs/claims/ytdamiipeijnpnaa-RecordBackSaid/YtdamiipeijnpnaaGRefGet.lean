/- The document's Get: a record of a text, from its beginning. -/
import Derived.Test.YtdamiipeijnpnaaQx27
import Derived.Test.YtdamiipeijnpnaaQx26
import Derived.Shelf.Abstract
import Derived.Shelf.RegionOpen
import Derived.OwnWalkIn
import Derived.TacticsInMore
import Derived.Sort.CutIn
import Derived.LoopNIn
import Derived.LoopIn
import Derived.Laws.IdiomStrings
import Derived.RangeFuncLeaves
namespace Go.Proofs.Ytdamiipeijnpnaa.Q
open Go.RowKit Go.Shelf Go.Proofs.YtdamiipeijnpnaaW.PrintWords Go.Proofs.YtdamiipeijnpnaaW.PrintLast Go.Proofs.YtdamiipeijnpnaaW.PrintMore
set_option linter.unusedVariables false
set_option linter.unusedSimpArgs false
attribute [local go_sem] Oper.semAt_some

/-- '[]byte(s)': a new row that can be read. -/
theorem conv_reads (w : World) (s : ByteArray) (hs : s.size ≤ 140737488351232) : ∃ A c w', (convert 9 25 (.string s)).run Try.prog w = .ok (.slice A s.size c) w' ∧ Kd.C (Kd.int .u8) w' A s.size (bytesOf s) ∧ s.size ≤ c ∧ Below w.heap.size w w' := by
  have hrun := run_bytes_of_string (P := Try.prog) w 9 25 5 s Try.underlying9 Try.underlying25 Try.underlying5
  have hcap := grownCap_ge w s.size 0 5
  generalize grownCap w s.size 0 5 = cap at hrun hcap
  refine ⟨_, cap, _, hrun, ⟨bytesOf_length s, by omega, fun _ => ⟨_, rfl, fun j p hj => ⟨[.int .u8 p], rfl, rfl, fun i u hi => ?_⟩⟩⟩, hcap, ((Below.refl w.heap.size w).drew).alloc (Nat.le_refl _) _⟩
  have hi0 : i = 0 := by
    cases i with
    | zero => rfl
    | succ i => simp at hi
  subst hi0
  obtain rfl : Value.int .u8 p = u := by simpa using hi
  have hadd : (⟨w.heap.size, 0, none⟩ : Addr).add (j * (Kd.int .u8).sz + 0) = ⟨w.heap.size, j, none⟩ := by
    rw [show (Kd.int .u8).sz = 1 from rfl]
    simp only [Addr.add, Nat.mul_one, Nat.add_zero, Nat.zero_add]
    split
    · next h0 => rw [h0]
    · rfl
  rw [hadd, cell_of_row _ w.heap.size j _ 5 _ (Array.getElem?_push_size)]
  unfold bytesOf at hj
  rw [List.getElem?_map] at hj
  obtain ⟨b, hb, rfl⟩ := Option.map_eq_some_iff.1 hj
  unfold bytesRow
  have hjl : j < s.data.size := by have := (List.getElem?_eq_some_iff.1 hb).1; simpa using this
  rw [Array.getElem?_append_left (by simpa using hjl), Array.getElem?_map]
  rw [show s.data[j]? = some b by simpa using hb]
  rfl
theorem below_drawn0 {w w' : World} (h : Drawn0 w w') : Below w.heap.size w w' := by
  obtain ⟨m, rfl⟩ := h
  exact pw_below_drewN (Below.refl _ _) m

/-- A region that neither panics nor leaves: what stands behind it is asked for the normal end alone. -/
theorem wpIn_then {F : Fence} {n : Nat} {P : Program} {c : Code} {K : Act → World → Prop} {Q : Exit → Act → World → Prop} {a : Act} {w : World} (h : c.wpIn F n P (Exit.then K (fun _ _ _ => False)) a w) : c.wpIn F n P (Exit.then K Q) a w :=
  wpIn_mono h (fun e a w h => by
    cases e with
    | normal => exact h
    | _ => exact h.elim)
/-- The number of a text's bytes from the second one on. -/
def partN (s : ByteArray) : Nat → Int
  | 0 => 0
  | n + 1 => 256 * partN s n + bt s ((n + 1 : Nat) : Int)
theorem partN_range (s : ByteArray) : ∀ n : Nat, 0 ≤ partN s n ∧ partN s n < 256 ^ n
  | 0 => by simp [partN]
  | n + 1 => by
    have h1 := partN_range s n
    have h2 := bt_range s ((n + 1 : Nat) : Int)
    unfold partN
    rw [Int.pow_succ]
    omega
/-- The length that a head tells. -/
def num4 (s : ByteArray) : Int := partN s 4
def usufructref06_Get.f (k : Nat) (s : ByteArray) : Option (ByteArray × Int × Int) :=
  if s.size ≤ 140737488351232 then
    if s.size = 0 then some (⟨#[]⟩, 0, 2) else if bt s 0 = 90 then
      if (s.size : Int) < 9 then some (⟨#[]⟩, 0, 2) else
      (usufructref03_Of.f k (bytesOf (s.extract 1 5))).bind fun c1 => (usufructref06_four.f c1).bind fun f1 =>
        if f1.toList = (s.extract 5 9).toList then
          if num4 s > 65536 then some (⟨#[]⟩, 0, 4) else if (s.size : Int) < 13 + num4 s then some (⟨#[]⟩, 0, 2) else
          (usufructref03_Of.f k (bytesOf (s.extract 9 (9 + num4 s).toNat))).bind fun c2 => (usufructref06_four.f c2).bind fun f2 =>
            if f2.toList = (s.extract (9 + num4 s).toNat (13 + num4 s).toNat).toList then some (s.extract 9 (9 + num4 s).toNat, 13 + num4 s, 0) else some (⟨#[]⟩, 0, 5)
        else some (⟨#[]⟩, 0, 5)
    else some (⟨#[]⟩, 0, 3)
  else none

set_option maxRecDepth 100000 in
set_option maxHeartbeats 4000000 in
theorem usufructref06_Get.calls (k : Nat) (a0 : ByteArray) (r1 : ByteArray) (r2 r3 : Int) (w : World) (h : usufructref06_Get.f k a0 = some (r1, r2, r3)) :
    Calls Try.prog 32 #[.string a0] w fun e w' => e = .returned (.agg #[.string r1, .int .i64 r2, .int .i64 r3]) ∧ Below w.heap.size w w' := by
  unfold usufructref06_Get.f at h
  by_cases hsz : a0.size ≤ 140737488351232
  · rw [if_pos hsz] at h
    refine (callsIn_wide (n := 8)).1 ?_
    refine callsIn_of_wp Try.func32 rfl trivial ?_ rfl
    simp only [Try.ntmps32, List.size_toArray, List.length_cons, List.length_nil, Nat.reduceAdd, Nat.reduceSub, Array.replicate_succ, Array.replicate_zero, List.push_toArray, List.append_toArray, List.nil_append, List.cons_append]
    have hmx : Try.prog.follows .mixedOrders = true := by kernel_rfl
    gi_upto_region 1 with (fail)
    have bx := blk_new w (.cells #[.string ⟨#[]⟩, .int .i64 0, .int .i64 0] 61)
    have hb1 : Below w.heap.size w (w.alloc (.cells #[.string ⟨#[]⟩, .int .i64 0, .int .i64 0] 61)) := (Below.refl _ w).alloc (Nat.le_refl _) _
    generalize w.alloc (.cells #[.string ⟨#[]⟩, .int .i64 0, .int .i64 0] 61) = W1 at *
    obtain ⟨q, hq⟩ : ∃ q, w.heap.size = q := ⟨_, rfl⟩
    rw [hq] at bx hb1 ⊢
    -- the end: the result's three cells are stored and handed back
    have fin : ∀ (W : World) (a : Act) (b : ByteArray) (m e : Int), Below W1.heap.size W1 W → a.tmps.getD 2 undef = .pointer (some ⟨q, 0, none⟩) → a.defers = [] → some (b, m, e) = some (r1, r2, r3) →
        bodyPost Try.prog Try.f32 (fun e2 w' => e2 = .returned (.agg #[.string r1, .int .i64 r2, .int .i64 r3]) ∧ Below w.heap.size w w') .ret a (((W.setCell ⟨q, 0, none⟩ (.string b)).setCell ⟨q, 1, none⟩ (.int .i64 m)).setCell ⟨q, 2, none⟩ (.int .i64 e)) := by
      intro W a b m e hb a2 ad hr
      simp only [Option.some.injEq, Prod.mk.injEq] at hr
      obtain ⟨rfl, rfl, rfl⟩ := hr
      have bW := (hb.block q (blk_lt bx)).trans bx
      have g := blk_put (blk_put (blk_put bW 0 (.string b) (cs' := #[.string b, .int .i64 0, .int .i64 0]) rfl) 1 (.int .i64 m) (cs' := #[.string b, .int .i64 m, .int .i64 0]) rfl) 2 (.int .i64 e) (cs' := #[.string b, .int .i64 m, .int .i64 e]) rfl
      refine bodyPost_ret (results_cell_row rfl _ _ q 61 #[.string b, .int .i64 m, .int .i64 e] (0, 0) _ a2 g Try.underlying61 rfl (by kernel_rfl)) ad ?_
      rw [hq]
      exact ⟨rfl, (((hb1.trans (hb.mono (by rw [← hq]; exact hb1.size))).setCell (p := ⟨q, 0, none⟩) (Nat.le_refl _) _).setCell (p := ⟨q, 1, none⟩) (Nat.le_refl _) _).setCell (p := ⟨q, 2, none⟩) (Nat.le_refl _) _⟩
    have fin2 := fin
    simp only [hq] at fin2
    have x0 : W1.cell? ⟨q, 0, none⟩ = some (.string ⟨#[]⟩) := (blk_cell bx 0).trans rfl
    have x1 : W1.cell? ⟨q, 1, none⟩ = some (.int .i64 0) := (blk_cell bx 1).trans rfl
    have x2 : W1.cell? ⟨q, 2, none⟩ = some (.int .i64 0) := (blk_cell bx 2).trans rfl
    have g0 := blk_frozen bx 0
    have g1 := blk_frozen bx 1
    have g2 := blk_frozen bx 2
    by_cases h0 : a0.size = 0
    · rw [if_pos h0] at h
      have he : a0.toList.isEmpty = true := by
        have : a0 = ⟨#[]⟩ := by
          cases a0 with
          | mk d => simp only [ByteArray.size, Array.size_eq_zero_iff] at h0; rw [h0]
        rw [this, ByteArray.toList_eq]; rfl
      gi_wp2
      first | (refine fin W1 _ _ _ _ (Below.refl _ _) ?_ ?_ h <;> rfl) | (refine fin2 W1 _ _ _ _ (Below.refl _ _) ?_ ?_ h <;> rfl)
    · rw [if_neg h0] at h
      have he : a0.toList.isEmpty = false := by
        cases hl : a0.toList with
        | nil =>
          have := congrArg List.length hl
          rw [ByteArray.toList_eq, data_length] at this
          exact absurd this h0
        | cons b l => rfl
      have hs0 : 0 < a0.size := by omega
      have hx0 : ((a0[0]'hs0).toNat : Int) = bt a0 0 := bt_at a0 0 hs0
      by_cases c0 : bt a0 0 = 90
      · rw [if_pos c0] at h
        have c0a : (bt a0 0 == 90) = true := beq_iff_eq.mpr c0
        have c0b : (bt a0 0 != 90) = false := by rw [bne, c0a]; rfl
        by_cases c9 : (a0.size : Int) < 9
        · rw [if_pos c9] at h
          have c9a : decide ((a0.size : Int) < 9) = true := decide_eq_true c9
          gi_wp2
          first | (refine fin W1 _ _ _ _ (Below.refl _ _) ?_ ?_ h <;> rfl) | (refine fin2 W1 _ _ _ _ (Below.refl _ _) ?_ ?_ h <;> rfl)
        rw [if_neg c9] at h
        have c9a : decide ((a0.size : Int) < 9) = false := decide_eq_false c9
        obtain ⟨c1, hc1, h⟩ := Option.bind_eq_some_iff.1 h
        obtain ⟨f1, hf1, h⟩ := Option.bind_eq_some_iff.1 h
        have p5 : ((5 : Int) ≤ (a0.size : Int)) = True := eq_true (by omega)
        have p9 : ((9 : Int) ≤ (a0.size : Int)) = True := eq_true (by omega)
        have n5 : (5 ≤ a0.size) = True := eq_true (by omega)
        have n9 : (9 ≤ a0.size) = True := eq_true (by omega)
        have hes : (a0.extract 1 5).size = 4 := by rw [ByteArray.size_extract]; omega
        obtain ⟨A5, c5, w5, hrun5, hr5, hcc5, hb5⟩ := conv_reads W1.drew (a0.extract 1 5) (by rw [hes]; omega)
        have hf48 : Fence.wide.fn 48 := trivial
        have hf47 : Fence.wide.fn 47 := trivial
        have hcall := usufructref03_Of.calls k A5 c5 (bytesOf (a0.extract 1 5)) c1 w5 (by rw [bytesOf_length]; exact hr5) (by rw [bytesOf_length]; exact hcc5) hc1
        rw [bytesOf_length, hes] at hcall
        rw [hes] at hrun5
        by_cases hq1 : f1.toList = (a0.extract 5 9).toList
        · rw [if_pos hq1] at h
          have hqa : (f1.toList == (a0.extract 5 9).toList) = true := beq_iff_eq.mpr hq1
          have hqb : (f1.toList != (a0.extract 5 9).toList) = false := by rw [bne, hqa]; rfl
          gi_upto_region 7 with (fail)

          gi_region_with_o (first
            | (gi_at_call 48; go_loud (refine (callsIn_wide.2 hcall).mono ?_; rintro e w6 ⟨rfl, hd6⟩; have hb6 := below_drawn0 hd6))
            | (gi_at_call 47; go_loud (refine (callsIn_wide.2 (usufructref06_four.calls c1 f1 _ hf1)).mono ?_; rintro e w7 ⟨rfl, hb7⟩; have hB7 : Below W1.heap.size W1 w7 := below_step (below_step (below_step (below_drew1 (Below.refl _ W1)) hb5) hb6) hb7; have b7 := (hB7.block q (blk_lt bx)).trans bx; clear hb5 hb6 hb7 hr5 hcc5)))
          have y0 : w7.cell? ⟨q, 0, none⟩ = some (.string ⟨#[]⟩) := (blk_cell b7 0).trans rfl
          have y1 : w7.cell? ⟨q, 1, none⟩ = some (.int .i64 0) := (blk_cell b7 1).trans rfl
          have y2 : w7.cell? ⟨q, 2, none⟩ = some (.int .i64 0) := (blk_cell b7 2).trans rfl
          have k0 := blk_frozen b7 0
          have k1 := blk_frozen b7 1
          have k2 := blk_frozen b7 2
          clear x0 x1 x2 g0 g1 g2 hcall hrun5 hf48 hf47 hc1 hf1
          gi_upto_region 10 with (fail)
          gi_wp2
          gi_loopw [3, 4] (fun v3 v4 wr => ∃ j : Nat, j ≤ 4 ∧ v4 = .int .i64 ((j : Int) + 1) ∧ v3 = .int .i64 (partN a0 j) ∧ wr = w7) (fun _ v4 _ => 5 - (intOf v4).toNat)
          case atStart => exact ⟨0, by omega, rfl, rfl, rfl⟩
          case round =>
            obtain ⟨j, hj, rfl, rfl, rfl⟩ := hrel
            by_cases hlt : j < 4
            · obtain ⟨P, hP⟩ : ∃ P, partN a0 j = P := ⟨_, rfl⟩
              obtain ⟨i, hi⟩ : ∃ i : Int, (j : Int) + 1 = i := ⟨_, rfl⟩
              have HI := Aside0.mk hi
              have p0 : (0 ≤ i) = True := eq_true (by omega)
              have p1 : (i < (a0.size : Int)) = True := eq_true (by omega)
              have d5 : decide (i < 5) = true := decide_eq_true (by omega)
              have hxi := bt_at a0 i
              have hr1 := bt_range a0 i
              have hr2 := partN_range a0 j
              have hpow : (256 : Int) ^ j ≤ 16777216 := by
                rcases (show j = 0 ∨ j = 1 ∨ j = 2 ∨ j = 3 by omega) with rfl | rfl | rfl | rfl <;> decide
              have HK := Aside0.mk (show wrap64 (i + 1) = ((j + 1 : Nat) : Int) + 1 by unfold wrap64; omega)
              have HP := Aside0.mk (show wrap64 (wrap64 (256 * P) + wrap64 (bt a0 i)) = partN a0 (j + 1) by
                rw [hP] at hr2
                rw [partN, hP, show ((j + 1 : Nat) : Int) = i by omega]
                unfold wrap64
                omega)
              rw [hP, hi]
              clear hr1 hr2 hpow hP hi
              gi_wp2
              go_roundw
              case rel => exact ⟨j + 1, by omega, by rw [HK.out], by rw [HP.out], trivial⟩
              case measure => have := HI.out; simp [intOf, HK.out]; omega
            · obtain rfl : j = 4 := by omega
              have hr2 := partN_range a0 4
              rw [show num4 a0 = partN a0 4 from rfl] at h
              obtain ⟨n, hn⟩ : ∃ n, partN a0 4 = n := ⟨_, rfl⟩
              rw [hn] at hr2 h ⊢
              have d5 : decide (((4 : Nat) : Int) + 1 < 5) = false := by decide
              clear hn
              have hr3 : n < 4294967296 := by have := hr2.2; omega
              by_cases c4 : n > 65536
              · rw [if_pos c4] at h
                have c4a : decide (65536 < n) = true := decide_eq_true c4
                gi_wp2
                all_goals first | (refine fin wr _ _ _ _ hB7 ?_ ?_ h <;> rfl) | (refine fin2 wr _ _ _ _ hB7 ?_ ?_ h <;> rfl)
              rw [if_neg c4] at h
              have c4a : decide (65536 < n) = false := decide_eq_false c4
              have hw13 : wrap64 (13 + n) = 13 + n := by unfold wrap64; omega
              have hw9 : wrap64 (9 + n) = 9 + n := by unfold wrap64; omega
              have hk13 : IntKind.i64.wrap (13 + n) = 13 + n := by rw [i64_w]; exact hw13
              have hk9 : IntKind.i64.wrap (9 + n) = 9 + n := by rw [i64_w]; exact hw9
              by_cases c13 : (a0.size : Int) < 13 + n
              · rw [if_pos c13] at h
                have c13a : decide ((a0.size : Int) < 13 + n) = true := decide_eq_true c13
                gi_wp2
                all_goals first | (refine fin wr _ _ _ _ hB7 ?_ ?_ h <;> rfl) | (refine fin2 wr _ _ _ _ hB7 ?_ ?_ h <;> rfl)
              rw [if_neg c13] at h
              have c13a : decide ((a0.size : Int) < 13 + n) = false := decide_eq_false c13
              obtain ⟨e2, he2, h⟩ := Option.bind_eq_some_iff.1 h
              obtain ⟨f2, hf2, h⟩ := Option.bind_eq_some_iff.1 h
              have b1 : ((9 : Int) ≤ 9 + n) = True := eq_true (by omega)
              have b2 : (9 + n ≤ (a0.size : Int)) = True := eq_true (by omega)
              have b3 : (9 + n ≤ 13 + n) = True := eq_true (by omega)
              have b4 : (13 + n ≤ (a0.size : Int)) = True := eq_true (by omega)
              have b5 : ((0 : Int) ≤ 9 + n) = True := eq_true (by omega)
              have b6 : ((0 : Int) ≤ 13 + n) = True := eq_true (by omega)
              have hs2 : (a0.extract 9 (9 + n).toNat).size ≤ 140737488351232 := by rw [ByteArray.size_extract]; omega
              obtain ⟨A8, c8, w8, hrun8, hr8, hcc8, hb8⟩ := conv_reads wr.drew (a0.extract 9 (9 + n).toNat) hs2
              have hcall8 := usufructref03_Of.calls k A8 c8 (bytesOf (a0.extract 9 (9 + n).toNat)) e2 w8 (by rw [bytesOf_length]; exact hr8) (by rw [bytesOf_length]; exact hcc8) he2
              rw [bytesOf_length] at hcall8
              obtain ⟨m8, hm8⟩ : ∃ m8, (a0.extract 9 (9 + n).toNat).size = m8 := ⟨_, rfl⟩
              rw [hm8] at hcall8 hrun8
              clear hm8 hs2 he2 hr8 hcc8 hr2 hr3
              have hf48 : Fence.wide.fn 48 := trivial
              have hf47 : Fence.wide.fn 47 := trivial
              by_cases hq2 : f2.toList = (a0.extract (9 + n).toNat (13 + n).toNat).toList
              · rw [if_pos hq2] at h
                have hqc : (f2.toList == (a0.extract (9 + n).toNat (13 + n).toNat).toList) = true := beq_iff_eq.mpr hq2
                gi_upto_region 18 with (fail)
                gi_region_with_o (first
                  | (gi_at_call 48; go_loud (refine (callsIn_wide.2 hcall8).mono ?_; rintro e w9 ⟨rfl, hd9⟩; have hb9 := below_drawn0 hd9))
                  | (gi_at_call 47; go_loud (refine (callsIn_wide.2 (usufructref06_four.calls e2 f2 _ hf2)).mono ?_; rintro e w10 ⟨rfl, hb10⟩; have hB10 : Below W1.heap.size W1 w10 := below_step (below_step (below_step (below_drew1 hB7) hb8) hb9) hb10; have b10 := (hB10.block q (blk_lt bx)).trans bx; clear hb8 hb9 hb10)))
                have y0 : w10.cell? ⟨q, 0, none⟩ = some (.string ⟨#[]⟩) := (blk_cell b10 0).trans rfl
                have y1 : w10.cell? ⟨q, 1, none⟩ = some (.int .i64 0) := (blk_cell b10 1).trans rfl
                have y2 : w10.cell? ⟨q, 2, none⟩ = some (.int .i64 0) := (blk_cell b10 2).trans rfl
                have k0 := blk_frozen b10 0
                have k1 := blk_frozen b10 1
                have k2 := blk_frozen b10 2
                gi_wp2
                all_goals first | (refine fin w10 _ _ _ _ hB10 ?_ ?_ h <;> rfl) | (refine fin2 w10 _ _ _ _ hB10 ?_ ?_ h <;> rfl)
              · rw [if_neg hq2] at h
                have hqc : (f2.toList == (a0.extract (9 + n).toNat (13 + n).toNat).toList) = false := beq_eq_false_iff_ne.mpr hq2
                gi_upto_region 18 with (fail)
                gi_region_with_o (first
                  | (gi_at_call 48; go_loud (refine (callsIn_wide.2 hcall8).mono ?_; rintro e w9 ⟨rfl, hd9⟩; have hb9 := below_drawn0 hd9))
                  | (gi_at_call 47; go_loud (refine (callsIn_wide.2 (usufructref06_four.calls e2 f2 _ hf2)).mono ?_; rintro e w10 ⟨rfl, hb10⟩; have hB10 : Below W1.heap.size W1 w10 := below_step (below_step (below_step (below_drew1 hB7) hb8) hb9) hb10; have b10 := (hB10.block q (blk_lt bx)).trans bx; clear hb8 hb9 hb10)))
                have y0 : w10.cell? ⟨q, 0, none⟩ = some (.string ⟨#[]⟩) := (blk_cell b10 0).trans rfl
                have y1 : w10.cell? ⟨q, 1, none⟩ = some (.int .i64 0) := (blk_cell b10 1).trans rfl
                have y2 : w10.cell? ⟨q, 2, none⟩ = some (.int .i64 0) := (blk_cell b10 2).trans rfl
                have k0 := blk_frozen b10 0
                have k1 := blk_frozen b10 1
                have k2 := blk_frozen b10 2
                gi_wp2
                all_goals first | (refine fin w10 _ _ _ _ hB10 ?_ ?_ h <;> rfl) | (refine fin2 w10 _ _ _ _ hB10 ?_ ?_ h <;> rfl)
        · rw [if_neg hq1] at h
          have hqa : (f1.toList == (a0.extract 5 9).toList) = false := beq_eq_false_iff_ne.mpr hq1
          have hqb : (f1.toList != (a0.extract 5 9).toList) = true := by rw [bne, hqa]; rfl
          gi_upto_region 7 with (fail)

          gi_region_with_o (first
            | (gi_at_call 48; go_loud (refine (callsIn_wide.2 hcall).mono ?_; rintro e w6 ⟨rfl, hd6⟩; have hb6 := below_drawn0 hd6))
            | (gi_at_call 47; go_loud (refine (callsIn_wide.2 (usufructref06_four.calls c1 f1 _ hf1)).mono ?_; rintro e w7 ⟨rfl, hb7⟩; have hB7 : Below W1.heap.size W1 w7 := below_step (below_step (below_step (below_drew1 (Below.refl _ W1)) hb5) hb6) hb7; have b7 := (hB7.block q (blk_lt bx)).trans bx; clear hb5 hb6 hb7 hr5 hcc5)))
          have y0 : w7.cell? ⟨q, 0, none⟩ = some (.string ⟨#[]⟩) := (blk_cell b7 0).trans rfl
          have y1 : w7.cell? ⟨q, 1, none⟩ = some (.int .i64 0) := (blk_cell b7 1).trans rfl
          have y2 : w7.cell? ⟨q, 2, none⟩ = some (.int .i64 0) := (blk_cell b7 2).trans rfl
          have k0 := blk_frozen b7 0
          have k1 := blk_frozen b7 1
          have k2 := blk_frozen b7 2
          clear x0 x1 x2 g0 g1 g2 hcall hrun5 hf48 hf47 hc1 hf1
          gi_wp2
          first | (refine fin w7 _ _ _ _ hB7 ?_ ?_ h <;> rfl) | (refine fin2 w7 _ _ _ _ hB7 ?_ ?_ h <;> rfl)
      · rw [if_neg c0] at h
        have c0a : (bt a0 0 == 90) = false := beq_eq_false_iff_ne.mpr c0
        have c0b : (bt a0 0 != 90) = true := by rw [bne, c0a]; rfl
        gi_wp2
        first | (refine fin W1 _ _ _ _ (Below.refl _ _) ?_ ?_ h <;> rfl) | (refine fin2 W1 _ _ _ _ (Below.refl _ _) ?_ ?_ h <;> rfl)
  · rw [if_neg hsz] at h
    cases h
theorem usufructref06_Get.mono : ∀ a0 k, LeO (usufructref06_Get.f k a0) (usufructref06_Get.f (k + 1) a0) := by
  intro a0 k
  unfold usufructref06_Get.f
  repeat' first
    | (with_reducible exact usufructref03_Of.mono _ _)
    | (with_reducible exact LeO.refl _)
    | (with_reducible refine LeO.ite ?_ ?_)
    | (with_reducible refine LeO.bind ?_ (fun _ => ?_))
end Go.Proofs.Ytdamiipeijnpnaa.Q
