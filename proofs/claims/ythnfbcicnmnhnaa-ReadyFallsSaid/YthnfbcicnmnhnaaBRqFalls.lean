/- ReadyFalls: the order of entries, what stays true of a queue, and the law's walk. -/
import Derived.Test.YthnfbcicnmnhnaaGRqQueue
namespace Go.Proofs.Ythnfbcicnmnhnaa.Q
open Go.RowKit Go.Shelf Go.Proofs.YthnfbcicnmnhnaaW.PrintWords Go.Proofs.YthnfbcicnmnhnaaW.PrintLast Go.Proofs.YthnfbcicnmnhnaaW.PrintMore
set_option linter.unusedVariables false
set_option linter.unusedSimpArgs false

theorem ltE_iff (x y : En) : ltE x y = true ↔ y.wt < x.wt ∨ y.wt = x.wt ∧ x.h < y.h := by
  unfold ltE
  rw [decide_eq_true_eq]
  unfold cmpE orI cmpI
  repeat' split
  all_goals first | omega | (constructor <;> omega)
theorem ltE_false (x y : En) : ltE x y = false ↔ ¬ (y.wt < x.wt ∨ y.wt = x.wt ∧ x.h < y.h) := by
  rw [← ltE_iff, Bool.not_eq_true]
theorem ordE : Hp.Ord ltE := ⟨fun a b h => by rw [ltE_iff] at h; rw [ltE_false]; omega, fun a b c h1 h2 => by rw [ltE_false] at h1 h2 ⊢; omega⟩
/-- What stays true of a queue's entries. -/
structure JQ (last : Int) (es : List En) : Prop where
  hp : Hp.IsHp ltE es.length es
  rng : ∀ e ∈ es, 1 ≤ e.h ∧ e.h ≤ last
  nd : (es.map En.h).Nodup
theorem JQ.nil : JQ 0 [] := ⟨(fun k h1 h2 => absurd h2 (Nat.not_lt_zero k)), (fun e he => by cases he), List.nodup_nil⟩
theorem JQ.push {last : Int} {es : List En} (h : JQ last es) (e : En) (he : e.h = last + 1) (h0 : 0 ≤ last) : JQ (last + 1) (Hp.pushF ltE es e) := by
  have hp := Hp.push_perm (lt := ltE) es e
  refine ⟨Hp.push_hp ordE h.hp e, fun x hx => ?_, ?_⟩
  · rcases List.mem_cons.1 (hp.mem_iff.1 hx) with rfl | hx
    · omega
    · have := h.rng x hx; omega
  · refine ((hp.map En.h).nodup_iff).2 ?_
    rw [List.map_cons, List.nodup_cons]
    refine ⟨fun hm => ?_, h.nd⟩
    obtain ⟨x, hx, e1⟩ := List.mem_map.1 hm
    have := h.rng x hx
    omega
theorem JQ.new {last : Int} {es : List En} (h : JQ last es) : ∀ x ∈ es, x.h ≠ last + 1 := fun x hx => by have := h.rng x hx; omega
theorem JQ.out {last : Int} {es : List En} (h : JQ last es) {i : Nat} (hi : i < es.length) : JQ last (Hp.rest ltE es i) ∧ ∀ x ∈ Hp.rest ltE es i, x.h ≠ es[i].h := by
  have hp := Hp.rest_perm (lt := ltE) hi
  have hn := ((hp.map En.h).nodup_iff).2 h.nd
  rw [List.map_cons, List.nodup_cons] at hn
  refine ⟨⟨Hp.rest_hp ordE h.hp hi, fun x hx => h.rng x (hp.mem_iff.1 (by simp [hx])), hn.2⟩, fun x hx e => hn.1 (List.mem_map.2 ⟨x, hx, e⟩)⟩
theorem JQ.first {last : Int} {es : List En} (h : JQ last es) (h0 : 0 < es.length) : ∀ y ∈ es, ltE y es[0] = false := by
  match es, h0 with
  | x :: l, _ => exact fun y hy => Hp.hp_min ordE h.hp y hy

theorem push_one (x : En) : Hp.pushF ltE [] x = [x] := by
  unfold Hp.pushF
  rw [Hp.upF, dif_pos (show ([] : List En).length = 0 from rfl)]
  rfl
theorem push_two (x y : En) (h : ltE y x = false) : Hp.pushF ltE [x] y = [x, y] := by
  unfold Hp.pushF
  rw [Hp.upF, dif_neg (show ¬ [x].length = 0 by simp), if_neg]
  · rfl
  · intro h2
    have h3 : ltE y x = true := by simpa [Hp.ltAt] using h2
    rw [h] at h3
    cases h3
theorem put_a (w0 w : World) (q : Nat) (h : IsQ w0 w q 4 10 0 []) (hb : Below w0.heap.size w0 w) : Calls Try.prog 8 #[.pointer (some ⟨q, 0, none⟩), .int .i64 7, .int .i64 1, .int .i64 0] w fun e w' => ∃ b, e = .returned (.tuple #[.int .i64 1, .int .i64 0]) ∧ IsQ w0 w' q 4 10 1 [⟨b, 1, 7, 10⟩] ∧ Below w0.heap.size w0 w' := by
  refine (queue_Put.calls w0 w q 4 10 0 [] 7 1 0 h hb (by decide) (by decide) (by decide) (by decide) (by decide) (by decide) (by decide) (by decide) (fun x hx => by cases hx)).mono ?_
  rintro e w2 ⟨b, rfl, hq, hb⟩
  rw [push_one] at hq
  exact ⟨b, rfl, hq, hb⟩
theorem put_b (w0 w : World) (q b1 : Nat) (h : IsQ w0 w q 4 10 1 [⟨b1, 1, 7, 10⟩]) (hb : Below w0.heap.size w0 w) : Calls Try.prog 8 #[.pointer (some ⟨q, 0, none⟩), .int .i64 8, .int .i64 2, .int .i64 11] w fun e w' => ∃ b, e = .returned (.tuple #[.int .i64 2, .int .i64 0]) ∧ IsQ w0 w' q 4 10 2 [⟨b1, 1, 7, 10⟩, ⟨b, 2, 8, 9⟩] ∧ Below w0.heap.size w0 w' := by
  refine (queue_Put.calls w0 w q 4 10 1 [⟨b1, 1, 7, 10⟩] 8 2 11 h hb (by decide) (by decide) (by decide) (by decide) (by simp) (by simp) (by decide) (by decide) (fun x hx => by simp at hx; subst hx; show (1 : Int) ≠ 1 + 1; decide)).mono ?_
  rintro e w2 ⟨b, rfl, hq, hb⟩
  rw [push_two _ _ (by rw [ltE_false]; simp)] at hq
  exact ⟨b, rfl, hq, hb⟩
set_option maxRecDepth 100000 in
set_option maxHeartbeats 4000000 in
theorem usufructlaw07_awake.calls (w : World) :
    Calls Try.prog 6 #[] w fun e w' => e = .returned (.bool true) ∧ Below w.heap.size w w' := by
  go_enter Try.func6, Try.ntmps6
  go_wp2_with (first
    | (go_at_call 7; (refine (readyq_New.calls w 4 10 (by decide) (by decide) (by decide) (by decide)).mono ?_; rintro e w1 ⟨q, rfl, hq, hb⟩; have HQ1 := Aside0.mk hq; have HB1 := Aside0.mk hb; clear hq hb))
    | (go_at_call 8; (with_reducible refine (put_a w _ q HQ1.out HB1.out).mono ?_); rintro e w2 ⟨b1, rfl, hq, hb⟩; have HQ2 := Aside0.mk hq; have HB2 := Aside0.mk hb; clear hq hb)
    | (go_at_call 8; (with_reducible refine (put_b w _ q b1 HQ2.out HB2.out).mono ?_); rintro e w3 ⟨b2, rfl, hq, hb⟩; have HQ3 := Aside0.mk hq; have HB3 := Aside0.mk hb; clear hq hb)
    | (go_at_call 9; (refine (queue_First.calls w _ q 4 10 2 ⟨b1, 1, 7, 10⟩ [⟨b1, 1, 7, 10⟩, ⟨b2, 2, 8, 9⟩] HQ3.out (by simp) rfl).mono ?_); rintro e w4 ⟨rfl, hb⟩; have HQ4 := Aside0.mk (HQ3.out.below hb); have HB4 := Aside0.mk (HB3.out.trans (hb.mono HB3.out.size)); clear hb)
    | (go_at_call 12; (refine (queue_LenQ.calls w _ q 4 10 2 [⟨b1, 1, 7, 10⟩, ⟨b2, 2, 8, 9⟩] HQ4.out).mono ?_); rintro e w5 ⟨rfl, hb⟩; have HB5 := Aside0.mk (HB4.out.trans (hb.mono HB4.out.size)); clear hb))
  go_ret
  exact ⟨rfl, HB5.out⟩

def pairK : Kd (Int × Int) := Kd.pair (Kd.int .u16) (Kd.int .u16)
theorem pair_at {w : World} {A : Option Addr} {l : List (Int × Int)} (h : Kd.C pairK w A l.length l) (j : Nat) (hj : j < l.length) : ∃ ad, A = some ad ∧ w.cell? (ad.add (j * 2)) = some (.int .u16 l[j].1) ∧ w.cell? ⟨(ad.add (j * 2)).block, (ad.add (j * 2)).off + 1, none⟩ = some (.int .u16 l[j].2) := by
  obtain ⟨ad, c, e, _, hK, hc⟩ := Kd.C_get h (0, 0) (j : Int) (by omega) (by omega)
  have hd : l.getD (j : Int).toNat (0, 0) = l[j] := by rw [Int.toNat_natCast, List.getD_eq_getElem?_getD, List.getElem?_eq_getElem hj]; rfl
  rw [hd] at hK
  obtain ⟨c1, c2, rfl, h1, h2⟩ := hK
  obtain rfl : c1 = [.int .u16 l[j].1] := h1
  obtain rfl : c2 = [.int .u16 l[j].2] := h2
  have s2 : pairK.sz = 2 := rfl
  rw [Int.toNat_natCast, s2] at hc
  exact ⟨ad, e, hc 0 _ rfl, by rw [← add_field _ _ 1 (by omega)]; exact hc 1 _ rfl⟩
set_option maxRecDepth 100000 in
set_option maxHeartbeats 8000000 in
theorem usufructlaw07_ReadyFalls.calls (a0 : Int) (A1 : Option Addr) (c1 : Nat) (l1 : List (Int × Int)) (h0 : 0 ≤ a0 ∧ a0 ≤ 65535) (w : World) (hr1 : Kd.C pairK w A1 l1.length l1) (hc1 : l1.length ≤ c1) (hl1 : ∀ x ∈ l1, (0 ≤ x.1 ∧ x.1 ≤ 65535) ∧ (0 ≤ x.2 ∧ x.2 ≤ 65535)) (hm1 : l1.length ≤ 9223372036854775807) :
    Calls Try.prog 4 #[.int .u16 a0, .slice A1 l1.length c1] w fun e w' => e = .returned (.bool true) ∧ Below w.heap.size w w' := by
  obtain ⟨N, hN⟩ : ∃ N : Nat, l1.length = N := ⟨_, rfl⟩
  have HA := Aside0.mk h0
  have HR := Aside0.mk hr1
  have HL := Aside0.mk hl1
  have HN := Aside0.mk hN
  by_cases hlong : N > 40
  · have c0 : decide (40 < (N : Int)) = true := decide_eq_true (by omega)
    rw [hN]
    clear h0 hr1 hl1 hN hlong hc1 hm1
    go_enter Try.func4, Try.ntmps4
    go_wp2_with (go_at_call 6; (refine (usufructlaw07_awake.calls _).mono ?_; rintro e w1 ⟨rfl, hb⟩; have HB1 := Aside0.mk hb; clear hb))
    go_ret
    exact ⟨rfl, HB1.out⟩
  · have c0 : decide (40 < (N : Int)) = false := decide_eq_false (by omega)
    have HS := Aside0.mk hlong
    have hx0 := h0.1
    have hx1 := h0.2
    rw [hN]
    clear h0 hr1 hl1 hN hlong hc1 hm1
    go_enter Try.func4, Try.ntmps4
    go_wp2_with (first | (go_at_call 6; (refine (usufructlaw07_awake.calls _).mono ?_; rintro e w1 ⟨rfl, hb⟩; have HB1 := Aside0.mk hb; clear hb)) | (go_at_call 7; (refine (readyq_New.calls w1 40 (1 + a0) (by decide) (by decide) (by have := HA.out; omega) (by have := HA.out; omega)).mono ?_; rintro e w2 ⟨q, rfl, hq, hb⟩; have HQ2 := Aside0.mk hq; have HB2 := Aside0.mk hb; clear hq hb)))
    clear hx0 hx1
    go_loopw [6] (fun v6 W => ∃ (j : Nat) (ji : Int) (es : List En), v6 = .int .i64 ji ∧ Aside0 ((j : Int) = ji ∧ j ≤ N ∧ es.length = j) ∧ Aside0 (IsQ w1 W q 40 (1 + a0) ji es) ∧ Aside0 (Below w1.heap.size w1 W) ∧ Aside0 (JQ ji es) ∧ Aside0 (∀ e ∈ es, e.id = e.h - 1)) (fun v6 _ => N - (intOf v6).toNat)
    case atStart => exact ⟨0, 0, [], rfl, ⟨rfl, by omega, rfl⟩, HQ2, HB2, ⟨JQ.nil⟩, ⟨fun e he => by cases he⟩⟩
    case round =>
      clear HQ2 HB2
      obtain ⟨j, ji, es, rfl, HJ, HQ, HB, HI, HID⟩ := hrel
      by_cases hlt : j < N
      · have hd1 : decide (ji < (N : Int)) = true := decide_eq_true (by have := HJ.out; omega)
        have HLT := Aside0.mk hlt
        have hjl : j < l1.length := by rw [HN.out]; exact hlt
        obtain ⟨ad, e, x0, x1⟩ := pair_at HR.out j hjl
        have HV := Aside0.mk (HL.out _ (List.getElem_mem hjl))
        have HBW := Aside0.mk (below_step HB1.out HB.out)
        replace x0 := (HBW.out.cell (World.block_lt_of_cell? w _ x0)).trans x0
        replace x1 := (HBW.out.cell (World.block_lt_of_cell? w _ x1)).trans x1
        subst e
        generalize l1[j] = xx at *
        obtain ⟨p, r⟩ := xx
        obtain ⟨pm, hpm⟩ : ∃ pm, p % 256 = pm := ⟨_, rfl⟩
        have hw1 : IntKind.i64.wrap p = p := by rw [IntKind.wrap_i64]; have := HV.out; dsimp only at this; omega
        have hw2 : IntKind.i64.wrap r = r := by rw [IntKind.wrap_i64]; have := HV.out; dsimp only at this; omega
        have hw3 : p.tmod 256 = pm := by rw [Int.tmod_eq_emod_of_nonneg (by have := HV.out.1.1; exact this)]; exact hpm
        have hw4 : IntKind.i64.wrap pm = pm := by rw [IntKind.wrap_i64]; omega
        have hjn : j = ji.toNat := by have := HJ.out; omega
        have hp1 : (0 ≤ ji) = True := eq_true (by have := HJ.out; omega)
        have hq1 : (ji < (N : Int)) = True := eq_true (by have := HJ.out; omega)
        have hwj : wrap64 (ji + 1) = ji + 1 := by have := HJ.out; have := HS.out; unfold wrap64; omega
        have HPM := Aside0.mk (show 0 ≤ pm ∧ pm ≤ 255 by omega)
        have hm4 : 0 ≤ pm * (1 + a0) ∧ pm * (1 + a0) ≤ 300000000 := by
          have h1 := HPM.out
          have h2 := HA.out
          refine ⟨Int.mul_nonneg h1.1 (by omega), ?_⟩
          have := Int.mul_le_mul h1.2 (show 1 + a0 ≤ 65536 by omega) (by omega) (by decide)
          omega
        have HPUT := Aside0.mk (fun W (hW : IsQ w1 W q 40 (1 + a0) ji es) (hB : Below w1.heap.size w1 W) => queue_Put.calls w1 W q 40 (1 + a0) ji es ji pm r hW hB HPM.out.1 HPM.out.2 (by have := HV.out.2.1; exact this) (by have := HV.out.2.2; dsimp only at this; omega) (by have := HJ.out; have := HS.out; omega) (by have := HJ.out; have := HS.out; omega) (by have := HJ.out; have := HS.out; omega) hm4 HI.out.new)
        rw [hjn] at x0 x1
        clear hjl hlt hpm hjn hm4
        dsimp only at x0 x1
        go_upto_region 11 with (fail)
        refine start_ (n := 21) (S := fun w' => w'.cell? (ad.add (ji.toNat * 2)) = some (.int .u16 p) ∧ w'.cell? ⟨(ad.add (ji.toNat * 2)).block, (ad.add (ji.toNat * 2)).off + 1, none⟩ = some (.int .u16 r)) (ds := [15]) #[false, false, false, false, false, false, false, false, false, false, false, false, false, false, false, false, false, false, false, false, false] (by kernel_rfl) rfl rfl ⟨x0, x1⟩ (fun hHeld => ?_)
        refine pure_ (i := 0) (N := some 38) (v := ?_) (a' := ?_) #[true, false, false, false, false, false, false, false, false, false, false, false, false, false, false, false, false, false, false, false, false] rfl rfl (by kernel_rfl) (fun _ _ _ h => h) (Or.inl ⟨by rfl, ?_⟩) ?_ ?_
        rotate_left
        · intro w'
          go_simp
          with_reducible rfl
        rotate_left
        · simp only [Act.put, List.setIfInBounds_toArray, List.set_cons_zero, List.set_cons_succ, i64_w, i32_w]
          rfl
        refine pure_ (i := 1) (N := some 39) (v := ?_) (a' := ?_) #[true, true, false, false, false, false, false, false, false, false, false, false, false, false, false, false, false, false, false, false, false] rfl rfl (by kernel_rfl) (fun _ _ _ h => h) (Or.inl ⟨by rfl, ?_⟩) ?_ ?_
        rotate_left
        · intro w'
          go_simp
          with_reducible rfl
        rotate_left
        · simp only [Act.put, List.setIfInBounds_toArray, List.set_cons_zero, List.set_cons_succ, i64_w, i32_w]
          rfl
        refine pure_ (i := 2) (N := some 40) (v := ?_) (a' := ?_) #[true, true, true, false, false, false, false, false, false, false, false, false, false, false, false, false, false, false, false, false, false] rfl rfl (by kernel_rfl) (fun _ _ _ h => h) (Or.inl ⟨by rfl, ?_⟩) ?_ ?_
        rotate_left
        · intro w'
          go_simp
          with_reducible rfl
        rotate_left
        · simp only [Act.put, List.setIfInBounds_toArray, List.set_cons_zero, List.set_cons_succ, i64_w, i32_w]
          rfl
        refine pure_ (i := 3) (N := some 41) (v := ?_) (a' := ?_) #[true, true, true, true, false, false, false, false, false, false, false, false, false, false, false, false, false, false, false, false, false] rfl rfl (by kernel_rfl) (fun _ _ _ h => h) (Or.inl ⟨by rfl, ?_⟩) ?_ ?_
        rotate_left
        · intro w'
          go_simp
          with_reducible rfl
        rotate_left
        · simp only [Act.put, List.setIfInBounds_toArray, List.set_cons_zero, List.set_cons_succ, i64_w, i32_w]
          rfl
        refine pure_ (i := 4) (N := some 42) (v := ?_) (a' := ?_) #[true, true, true, true, true, false, false, false, false, false, false, false, false, false, false, false, false, false, false, false, false] rfl rfl (by kernel_rfl) (fun _ _ _ h => h) (Or.inl ⟨by rfl, ?_⟩) ?_ ?_
        rotate_left
        · intro w'
          go_simp
          with_reducible rfl
        rotate_left
        · simp only [Act.put, List.setIfInBounds_toArray, List.set_cons_zero, List.set_cons_succ, i64_w, i32_w]
          rfl
        refine pure_ (i := 5) (N := some 43) (v := ?_) (a' := ?_) #[true, true, true, true, true, true, false, false, false, false, false, false, false, false, false, false, false, false, false, false, false] rfl rfl (by kernel_rfl) (fun _ _ _ h => h) (Or.inl ⟨by rfl, ?_⟩) ?_ ?_
        rotate_left
        · intro w'
          go_simp
          with_reducible rfl
        rotate_left
        · simp only [Act.put, List.setIfInBounds_toArray, List.set_cons_zero, List.set_cons_succ, i64_w, i32_w]
          rfl
        refine pure_ (i := 9) (N := some 47) (v := ?_) (a' := ?_) #[true, true, true, true, true, true, false, false, false, true, false, false, false, false, false, false, false, false, false, false, false] rfl rfl (by kernel_rfl) (fun _ _ _ h => h) (Or.inl ⟨by rfl, ?_⟩) ?_ ?_
        rotate_left
        · intro w'
          go_simp
          with_reducible rfl
        rotate_left
        · simp only [Act.put, List.setIfInBounds_toArray, List.set_cons_zero, List.set_cons_succ, i64_w, i32_w]
          rfl
        refine pure_ (i := 10) (N := some 48) (v := ?_) (a' := ?_) #[true, true, true, true, true, true, false, false, false, true, true, false, false, false, false, false, false, false, false, false, false] rfl rfl (by kernel_rfl) (fun _ _ _ h => h) (Or.inl ⟨by rfl, ?_⟩) ?_ ?_
        rotate_left
        · intro w'
          go_simp
          with_reducible rfl
        rotate_left
        · simp only [Act.put, List.setIfInBounds_toArray, List.set_cons_zero, List.set_cons_succ, i64_w, i32_w]
          rfl
        refine pure_ (i := 11) (N := some 49) (v := ?_) (a' := ?_) #[true, true, true, true, true, true, false, false, false, true, true, true, false, false, false, false, false, false, false, false, false] rfl rfl (by kernel_rfl) (fun _ _ _ h => h) (Or.inl ⟨by rfl, ?_⟩) ?_ ?_
        rotate_left
        · intro w'
          go_simp
          with_reducible rfl
        rotate_left
        · simp only [Act.put, List.setIfInBounds_toArray, List.set_cons_zero, List.set_cons_succ, i64_w, i32_w]
          rfl
        refine pure_ (i := 12) (N := some 50) (v := ?_) (a' := ?_) #[true, true, true, true, true, true, false, false, false, true, true, true, true, false, false, false, false, false, false, false, false] rfl rfl (by kernel_rfl) (fun _ _ _ h => h) (Or.inl ⟨by rfl, ?_⟩) ?_ ?_
        rotate_left
        · intro w'
          go_simp
          with_reducible rfl
        rotate_left
        · simp only [Act.put, List.setIfInBounds_toArray, List.set_cons_zero, List.set_cons_succ, i64_w, i32_w]
          rfl
        refine take_ (i := 6) (N := some 44) (v := ?_) (a' := ?_) #[true, true, true, true, true, true, true, false, false, true, true, true, true, false, false, false, false, false, false, false, false] rfl rfl (by kernel_rfl) (fun _ _ _ h => h) (Or.inl ⟨by rfl, ?_⟩) hHeld ?_ ?_
        rotate_left
        · rintro w' ⟨s0, s1⟩
          go_simp
          with_reducible rfl
        rotate_left
        · simp only [Act.put, List.setIfInBounds_toArray, List.set_cons_zero, List.set_cons_succ, i64_w, i32_w]
          rfl
        refine pure_ (i := 7) (N := some 45) (v := ?_) (a' := ?_) #[true, true, true, true, true, true, true, true, false, true, true, true, true, false, false, false, false, false, false, false, false] rfl rfl (by kernel_rfl) (fun _ _ _ h => h) (Or.inl ⟨by rfl, ?_⟩) ?_ ?_
        rotate_left
        · intro w'
          go_simp
          with_reducible rfl
        rotate_left
        · simp only [Act.put, List.setIfInBounds_toArray, List.set_cons_zero, List.set_cons_succ, i64_w, i32_w]
          rfl
        refine pure_ (i := 8) (N := some 46) (v := ?_) (a' := ?_) #[true, true, true, true, true, true, true, true, true, true, true, true, true, false, false, false, false, false, false, false, false] rfl rfl (by kernel_rfl) (fun _ _ _ h => h) (Or.inl ⟨by rfl, ?_⟩) ?_ ?_
        rotate_left
        · intro w'
          go_simp
          with_reducible rfl
        rotate_left
        · simp only [Act.put, List.setIfInBounds_toArray, List.set_cons_zero, List.set_cons_succ, i64_w, i32_w]
          rfl
        refine take_ (i := 13) (N := some 51) (v := ?_) (a' := ?_) #[true, true, true, true, true, true, true, true, true, true, true, true, true, true, false, false, false, false, false, false, false] rfl rfl (by kernel_rfl) (fun _ _ _ h => h) (Or.inl ⟨by rfl, ?_⟩) hHeld ?_ ?_
        rotate_left
        · rintro w' ⟨s0, s1⟩
          go_simp
          with_reducible rfl
        rotate_left
        · simp only [Act.put, List.setIfInBounds_toArray, List.set_cons_zero, List.set_cons_succ, i64_w, i32_w]
          rfl
        refine pure_ (i := 14) (N := some 52) (v := ?_) (a' := ?_) #[true, true, true, true, true, true, true, true, true, true, true, true, true, true, true, false, false, false, false, false, false] rfl rfl (by kernel_rfl) (fun _ _ _ h => h) (Or.inl ⟨by rfl, ?_⟩) ?_ ?_
        rotate_left
        · intro w'
          go_simp
          with_reducible rfl
        rotate_left
        · simp only [Act.put, List.setIfInBounds_toArray, List.set_cons_zero, List.set_cons_succ, i64_w, i32_w]
          rfl
        refine last_ (i := 15) (N := some 53) #[true, true, true, true, true, true, true, true, true, true, true, true, true, true, true, true, false, false, false, false, false] rfl rfl (by kernel_rfl) (by decide) (fun K hK => ?_)
        refine goes_ Try.func8 (by kernel_rfl) rfl #[.pointer (some ⟨q, 0, none⟩), .int .i64 ji, .int .i64 pm, .int .i64 r] (by rfl) rfl rfl (by simp only [List.map_toArray, List.map_cons, List.map_nil]; rfl) ?_
        with_reducible refine (HPUT.out _ (HQ.out.below (below_drew1 (Below.refl _ _))) (HB.out.trans ((below_drew1 (Below.refl _ _)).mono HB.out.size))).mono ?_
        rintro en W5 ⟨b, rfl, hq, hb⟩
        refine ⟨_, rfl, ?_⟩
        have HQ5 := Aside0.mk hq
        have HB5 := Aside0.mk hb
        clear hq hb
        refine hK.out _ _ ?_
        clear hK K
        refine norm_ (a' := ?_) ?_ ?_
        rotate_left
        · show Act.put _ (some 53) _ = _
          simp only [Act.put, List.setIfInBounds_toArray, List.set_cons_zero, List.set_cons_succ, i64_w, i32_w]
          rfl
        refine pure_ (i := 16) (N := some 37) (v := ?_) (a' := ?_) #[true, true, true, true, true, true, true, true, true, true, true, true, true, true, true, true, true, false, false, false, false] rfl rfl (by kernel_rfl) (fun _ _ _ h => h) (Or.inl ⟨by rfl, ?_⟩) ?_ ?_
        rotate_left
        · intro w'
          go_simp
          with_reducible rfl
        rotate_left
        · simp only [Act.put, List.setIfInBounds_toArray, List.set_cons_zero, List.set_cons_succ, i64_w, i32_w]
          rfl
        refine pure_ (i := 17) (N := some 54) (v := ?_) (a' := ?_) #[true, true, true, true, true, true, true, true, true, true, true, true, true, true, true, true, true, true, false, false, false] rfl rfl (by kernel_rfl) (fun _ _ _ h => h) (Or.inl ⟨by rfl, ?_⟩) ?_ ?_
        rotate_left
        · intro w'
          go_simp
          with_reducible rfl
        rotate_left
        · simp only [Act.put, List.setIfInBounds_toArray, List.set_cons_zero, List.set_cons_succ, i64_w, i32_w]
          rfl
        refine pure_ (i := 18) (N := some 55) (v := ?_) (a' := ?_) #[true, true, true, true, true, true, true, true, true, true, true, true, true, true, true, true, true, true, true, false, false] rfl rfl (by kernel_rfl) (fun _ _ _ h => h) (Or.inl ⟨by rfl, ?_⟩) ?_ ?_
        rotate_left
        · intro w'
          go_simp
          with_reducible rfl
        rotate_left
        · simp only [Act.put, List.setIfInBounds_toArray, List.set_cons_zero, List.set_cons_succ, i64_w, i32_w]
          rfl
        refine pure_ (i := 19) (N := some 7) (v := ?_) (a' := ?_) #[true, true, true, true, true, true, true, true, true, true, true, true, true, true, true, true, true, true, true, true, false] rfl rfl (by kernel_rfl) (fun _ _ _ h => h) (Or.inl ⟨by rfl, ?_⟩) ?_ ?_
        rotate_left
        · intro w'
          go_simp
          with_reducible rfl
        rotate_left
        · simp only [Act.put, List.setIfInBounds_toArray, List.set_cons_zero, List.set_cons_succ, i64_w, i32_w]
          rfl
        refine pure_ (i := 20) (N := some 8) (v := ?_) (a' := ?_) #[true, true, true, true, true, true, true, true, true, true, true, true, true, true, true, true, true, true, true, true, true] rfl rfl (by kernel_rfl) (fun _ _ _ h => h) (Or.inl ⟨by rfl, ?_⟩) ?_ ?_
        rotate_left
        · intro w'
          go_simp
          with_reducible rfl
        rotate_left
        · simp only [Act.put, List.setIfInBounds_toArray, List.set_cons_zero, List.set_cons_succ, i64_w, i32_w]
          rfl
        refine done_ (by kernel_rfl) ?_
        clear hHeld x0 x1 hw1 hw2 hw3 hw4
        go_wp2
        go_roundw
        case rel => exact ⟨j + 1, ji + 1, Hp.pushF ltE es ⟨b, ji + 1, ji, pm * (1 + a0) - r⟩, by rw [hwj], ⟨by have := HJ.out; omega, by have := HLT.out; omega, by rw [Hp.push_len, HJ.out.2.2]⟩, HQ5, HB5, ⟨HI.out.push ⟨b, ji + 1, ji, pm * (1 + a0) - r⟩ rfl (by have := HJ.out; omega)⟩, ⟨fun e he => by
          rcases List.mem_cons.1 ((Hp.push_perm (lt := ltE) es ⟨b, ji + 1, ji, pm * (1 + a0) - r⟩).mem_iff.1 he) with rfl | he
          · show ji = ji + 1 - 1; omega
          · exact HID.out e he⟩⟩
        case measure => have := HJ.out; have := HLT.out; simp [intOf]; omega
      · have hd1 : decide (ji < (N : Int)) = false := decide_eq_false (by have := HJ.out; omega)
        have HLT := Aside0.mk (show j = N by have := HJ.out; omega)
        clear hlt
        go_wp2
        go_loopw [11, 9, 10] (fun v11 v9 v10 W => ∃ (k : Nat) (ki wv hv : Int) (fs : List En), v11 = .int .i64 ki ∧ v9 = .int .i64 wv ∧ v10 = .int .i64 hv ∧ Aside0 ((k : Int) = ki ∧ k ≤ N ∧ fs.length = N - k) ∧ Aside0 (IsQ w1 W q 40 (1 + a0) ji fs) ∧ Aside0 (Below w1.heap.size w1 W) ∧ Aside0 (JQ ji fs) ∧ Aside0 (∀ e ∈ fs, e.id = e.h - 1) ∧ Aside0 (0 < k → ∀ y ∈ fs, y.wt ≤ wv ∧ (y.wt = wv → hv < y.h))) (fun v11 _ _ _ => N - (intOf v11).toNat)
        case atStart => exact ⟨0, 0, 0, 0, es, rfl, rfl, rfl, ⟨rfl, by omega, by rw [HJ.out.2.2, HLT.out]; rfl⟩, HQ, HB, HI, HID, ⟨fun h => absurd h (by omega)⟩⟩
        case round =>
          clear HQ HB HI HID
          obtain ⟨k, ki, wv, hv, fs, rfl, rfl, rfl, HK, HQ, HB, HI, HID, HP⟩ := hrel
          by_cases hlt : k < N
          · have hd2 : decide (ki < (N : Int)) = true := decide_eq_true (by have := HK.out; omega)
            have hf0 : 0 < fs.length := by have := HK.out; omega
            have hmem := List.getElem_mem hf0
            have hrg := HI.out.rng _ hmem
            have hid := HID.out _ hmem
            have hfst := HI.out.first hf0
            obtain ⟨hI2, hnd⟩ := HI.out.out hf0
            have hpm := Hp.rest_perm (lt := ltE) hf0
            have hrl : (Hp.rest ltE fs 0).length = fs.length - 1 := Hp.rest_len 0
            have hwfx := wf64 (x := fs[0].h) (by omega) (by have := HJ.out; have := HS.out; omega)
            have hp0 : 0 < k → fs[0].wt ≤ wv ∧ (fs[0].wt = wv → hv < fs[0].h) := fun h => HP.out h _ hmem
            have HFIRST := Aside0.mk (fun W (hW : IsQ w1 W q 40 (1 + a0) ji fs) => queue_First.calls w1 W q 40 (1 + a0) ji fs[0] fs hW hf0 rfl)
            have HWT := Aside0.mk (fun W (hW : IsQ w1 W q 40 (1 + a0) ji fs) => queue_Weight.calls w1 W q 40 (1 + a0) ji fs fs[0] hW hmem hwfx)
            have HTK := Aside0.mk (fun W (hW : IsQ w1 W q 40 (1 + a0) ji fs) (hB : Below w1.heap.size w1 W) => queue_Take.calls w1 W q 40 (1 + a0) ji fs[0] fs hW hB hf0 rfl (by have := HK.out; have := HS.out; omega) hwfx hnd)
            have HNX := Aside0.mk (show (∀ e ∈ Hp.rest ltE fs 0, e.id = e.h - 1) ∧ (∀ y ∈ Hp.rest ltE fs 0, y.wt ≤ fs[0].wt ∧ (y.wt = fs[0].wt → fs[0].h < y.h)) from ⟨fun e he => HID.out e (hpm.mem_iff.1 (by simp [he])), fun y hy => by
              have h1 := hfst y (hpm.mem_iff.1 (by simp [hy]))
              have h2 := hnd y hy
              rw [ltE_false] at h1
              omega⟩)
            generalize Hp.rest ltE fs 0 = rs at *
            generalize fs[0] = x at *
            have HI3 := Aside0.mk hI2
            have HRL := Aside0.mk (show rs.length = N - (k + 1) by rw [hrl, HK.out.2.2]; omega)
            have HKJ := Aside0.mk (show wrap64 (ki + 1) = ki + 1 by have := HK.out; have := HS.out; unfold wrap64; omega)
            have hwk := HKJ.out
            have hws : wrap64 (x.h - 1) = x.id := by have := HJ.out; have := HS.out; unfold wrap64; omega
            have HLT2 := Aside0.mk hlt
            by_cases hk0 : k = 0
            · have hz : ki = 0 := by have := HK.out; omega
              subst hz
              have hd3 : (0 < N) = True := eq_true (by omega)
              have hd4 : decide (0 < N) = true := decide_eq_true (by omega)
              clear hlt hf0 hmem hrg hid hfst hI2 hnd hpm hrl hwfx hp0 hk0 hwk
              have hwk : wrap64 (0 + 1) = 1 := by unfold wrap64; omega
              go_wp2_with (first | (go_at_call 9; (refine (HFIRST.out _ HQ.out).mono ?_; rintro en w4 ⟨rfl, hb⟩; have HQ4 := Aside0.mk (HQ.out.below hb); have HB4 := Aside0.mk (HB.out.trans (hb.mono HB.out.size)); clear hb)) | (go_at_call 10; (refine (HWT.out _ HQ4.out).mono ?_; rintro en w5 ⟨rfl, hb⟩; have HQ5 := Aside0.mk (HQ4.out.below hb); have HB5 := Aside0.mk (HB4.out.trans (hb.mono HB4.out.size)); clear hb)) | (go_at_call 11; (refine (HTK.out _ HQ5.out HB5.out).mono ?_; rintro en w6 ⟨rfl, hq, hb⟩; have HQ6 := Aside0.mk hq; have HB6 := Aside0.mk hb; clear hq hb)))
              go_roundw
              case rel => exact ⟨1, 1, x.wt, x.h, rs, rfl, rfl, rfl, ⟨rfl, by have := HLT2.out; omega, by have := HRL.out; have := HK.out; omega⟩, HQ6, HB6, HI3, ⟨HNX.out.1⟩, ⟨fun _ => HNX.out.2⟩⟩
              case measure => have := HK.out; have := HLT2.out; simp [intOf]; omega
            · have hk1 : decide (0 < ki) = true := decide_eq_true (by have := HK.out; omega)
              have hpp := hp0 (by omega)
              have hw1 : decide (wv < x.wt) = false := decide_eq_false (by omega)
              by_cases hweq : x.wt = wv
              · have hb1 : (x.wt == wv) = true := by rw [hweq]; simp
                have hb2 : decide (x.h ≤ hv) = false := decide_eq_false (by have := hpp.2 hweq; omega)
                clear hlt hf0 hmem hrg hid hfst hI2 hnd hpm hrl hwfx hp0 hk0 hpp hweq
                go_wp2_with (first | (go_at_call 9; (refine (HFIRST.out _ HQ.out).mono ?_; rintro en w4 ⟨rfl, hb⟩; have HQ4 := Aside0.mk (HQ.out.below hb); have HB4 := Aside0.mk (HB.out.trans (hb.mono HB.out.size)); clear hb)) | (go_at_call 10; (refine (HWT.out _ HQ4.out).mono ?_; rintro en w5 ⟨rfl, hb⟩; have HQ5 := Aside0.mk (HQ4.out.below hb); have HB5 := Aside0.mk (HB4.out.trans (hb.mono HB4.out.size)); clear hb)) | (go_at_call 11; (refine (HTK.out _ HQ5.out HB5.out).mono ?_; rintro en w6 ⟨rfl, hq, hb⟩; have HQ6 := Aside0.mk hq; have HB6 := Aside0.mk hb; clear hq hb)))
                go_roundw
                case rel => exact ⟨k + 1, ki + 1, x.wt, x.h, rs, by rw [HKJ.out], rfl, rfl, ⟨by have := HK.out; omega, by have := HLT2.out; omega, HRL.out⟩, HQ6, HB6, HI3, ⟨HNX.out.1⟩, ⟨fun _ => HNX.out.2⟩⟩
                case measure => have := HK.out; have := HLT2.out; simp [intOf]; omega
              · have hb1 : (x.wt == wv) = false := beq_eq_false_iff_ne.mpr hweq
                clear hlt hf0 hmem hrg hid hfst hI2 hnd hpm hrl hwfx hp0 hk0 hpp hweq
                go_wp2_with (first | (go_at_call 9; (refine (HFIRST.out _ HQ.out).mono ?_; rintro en w4 ⟨rfl, hb⟩; have HQ4 := Aside0.mk (HQ.out.below hb); have HB4 := Aside0.mk (HB.out.trans (hb.mono HB.out.size)); clear hb)) | (go_at_call 10; (refine (HWT.out _ HQ4.out).mono ?_; rintro en w5 ⟨rfl, hb⟩; have HQ5 := Aside0.mk (HQ4.out.below hb); have HB5 := Aside0.mk (HB4.out.trans (hb.mono HB4.out.size)); clear hb)) | (go_at_call 11; (refine (HTK.out _ HQ5.out HB5.out).mono ?_; rintro en w6 ⟨rfl, hq, hb⟩; have HQ6 := Aside0.mk hq; have HB6 := Aside0.mk hb; clear hq hb)))
                go_roundw
                case rel => exact ⟨k + 1, ki + 1, x.wt, x.h, rs, by rw [HKJ.out], rfl, rfl, ⟨by have := HK.out; omega, by have := HLT2.out; omega, HRL.out⟩, HQ6, HB6, HI3, ⟨HNX.out.1⟩, ⟨fun _ => HNX.out.2⟩⟩
                case measure => have := HK.out; have := HLT2.out; simp [intOf]; omega
          · have hd2 : decide (ki < (N : Int)) = false := decide_eq_false (by have := HK.out; omega)
            have hfl : fs = [] := List.eq_nil_of_length_eq_zero (by have := HK.out; omega)
            subst hfl
            clear hlt
            go_wp2_with (go_at_call 12; (refine (queue_LenQ.calls w1 _ q 40 (1 + a0) ji [] HQ.out).mono ?_; rintro en w7 ⟨rfl, hb⟩; have HB7 := Aside0.mk (HB.out.trans (hb.mono HB.out.size)); clear hb))
            go_ret
            exact ⟨rfl, below_step HB1.out HB7.out⟩
end Go.Proofs.Ythnfbcicnmnhnaa.Q
