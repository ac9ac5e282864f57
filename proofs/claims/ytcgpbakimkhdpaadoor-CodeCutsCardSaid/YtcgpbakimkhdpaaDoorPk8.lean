/- Part 8 of a claim's texts. -/
import Derived.Test.YtcgpbakimkhdpaaDoorPk1
import Derived.Test.YtcgpbakimkhdpaaDoorPk2
import Derived.Test.YtcgpbakimkhdpaaDoorPk4
import Derived.Test.YtcgpbakimkhdpaaDoorPk7
import Derived.Test.YtcgpbakimkhdpaaDoorPk5
import Derived.Lib.Hide
import Derived.Outline
import Derived.Test.YtcgpbakimkhdpaaDoorPk3
namespace Go.Proofs.YtcgpbakimkhdpaaDoor.Q
open Go.RowKit Go.Proofs.YtcgpbakimkhdpaaDoorW.PrintWords Go.Proofs.YtcgpbakimkhdpaaDoorW.PrintLast Go.Proofs.YtcgpbakimkhdpaaDoorW.PrintMore
attribute [local go_sem] max2_int min2_int max_two min_two max_three min_three max_four min_four
set_option linter.unusedVariables false
set_option linter.unusedSimpArgs false
set_option maxHeartbeats 8000000
set_option maxRecDepth 100000
open Go.Proofs.YtcgpbakimkhdpaaDoor.Q.H_
def Cut {α : Type} (F : List Int → Int → Int → Int → Option (α × Int × Int × Int)) (b : List Int) (a fa fe : Int) (P : α → Prop) : Prop :=
  ∃ r a' f' e', F b a fa fe = some (r, a', f', e') ∧ Rd b a' f' e' ∧ (fe ≠ 0 → e' ≠ 0) ∧ P r ∧ (e' = 0 → ∀ q, (b ++ q).length ≤ 100000 → F (b ++ q) a fa fe = some (r, a', f', e'))
section
variable {α β : Type} {b : List Int} {a fa fe : Int}
theorem Cut.congr {F G : List Int → Int → Int → Int → Option (α × Int × Int × Int)} {P : α → Prop} (h : Cut F b a fa fe P) (e : ∀ b a fa fe, G b a fa fe = F b a fa fe) : Cut G b a fa fe P := by
  have : G = F := by funext b a fa fe; exact e b a fa fe
  rw [this]
  exact h
theorem Cut.pure (h : Rd b a fa fe) (x : α) {P : α → Prop} (p : P x) : Cut (fun _ a fa fe => some (x, a, fa, fe)) b a fa fe P :=
  ⟨x, a, fa, fe, rfl, h, fun h => h, p, fun _ _ _ => rfl⟩
theorem Cut.bind {F : List Int → Int → Int → Int → Option (α × Int × Int × Int)} {G : α → List Int → Int → Int → Int → Option (β × Int × Int × Int)} {P : α → Prop} {Q : β → Prop} (h : Cut F b a fa fe P) (g : ∀ r a' f' e', P r → Rd b a' f' e' → Cut (G r) b a' f' e' Q) :
    Cut (fun b a fa fe => (F b a fa fe).bind fun q => G q.1 b q.2.1 q.2.2.1 q.2.2.2) b a fa fe Q := by
  obtain ⟨r, a1, f1, e1, h1, h2, h3, h4, h5⟩ := h
  obtain ⟨s, a2, f2, e2, g1, g2, g3, g4, g5⟩ := g r a1 f1 e1 h4 h2
  refine ⟨s, a2, f2, e2, ?_, g2, fun h => g3 (h3 h), g4, fun he q hq => ?_⟩
  · show (F b a fa fe).bind _ = _
    rw [h1, bs_]
    exact g1
  · have he1 : e1 = 0 := Classical.byContradiction fun h => g3 h he
    show (F (b ++ q) a fa fe).bind _ = _
    rw [h5 he1 q hq, bs_]
    exact g5 he q hq
theorem num_cut (h : Rd b a fa fe) : Cut fR_Num.f b a fa fe fun r => 0 ≤ r ∧ r ≤ 4611686018427387904 := by
  have hl := h.len; have h0 := h.a0; have h1 := h.a1
  obtain ⟨r, a', f', e', hn, hr, hz, n0, n1⟩ := num_step h
  refine ⟨r, a', f', e', hn, hr, fun hf => by rw [(hz hf).2.2]; exact hf, ⟨n0, n1⟩, fun he q hq => ?_⟩
  have hfe : fe = 0 := by
    by_cases hf : fe = 0
    · exact hf
    · have := (hz hf).2.2; omega
  have hlen : (b ++ q).length = b.length + q.length := List.length_append
  unfold fR_Num.f at hn ⊢
  rw [h.ok, if_pos (dt_ hfe)] at hn ⊢
  have e1 : wrap64 ((b.length : Int) - a) = (b.length : Int) - a := by unfold wrap64; omega
  have e2 : wrap64 (((b ++ q).length : Int) - a) = ((b ++ q).length : Int) - a := by unfold wrap64; omega
  rw [e1] at hn
  rw [e2]
  by_cases hs : (b.length : Int) - a < 8
  · rw [if_pos hs] at hn
    simp only [Option.some.injEq, Prod.mk.injEq] at hn
    omega
  · rw [if_neg hs, if_pos ⟨h0, by omega⟩] at hn
    rw [if_neg (by omega), if_pos ⟨h0, by omega⟩, List.take_append_of_le_length (by omega)]
    exact hn
theorem text_cut (h : Rd b a fa fe) : Cut (fun b a fa fe => fR_Text.f b a fa fe 256) b a fa fe fun r => r.size ≤ 256 := by
  have hl := h.len
  obtain ⟨n, a1, f1, e1, hn, hr, hz, ⟨n0, n1⟩, hx⟩ := num_cut h
  obtain ⟨r, a', f', e', ht, hr', hz'⟩ := text_step h 256
  have h0 := hr.a0; have h1 := hr.a1
  have e2 : wrap64 ((b.length : Int) - a1) = (b.length : Int) - a1 := by unfold wrap64; omega
  have ht2 := ht
  unfold fR_Text.f at ht2
  rw [hn, bs_] at ht2
  dsimp only at ht2
  rw [hr.ok, e2] at ht2
  refine ⟨r, a', f', e', ht, hr', fun hf => by rw [(hz' hf).2.2]; exact hf, ?_, fun he q hq => ?_⟩
  · by_cases h1 : e1 = 0
    · rw [if_pos (dt_ h1)] at ht2
      split at ht2
      · simp only [Option.some.injEq, Prod.mk.injEq] at ht2; rw [← ht2.1]; decide
      split at ht2
      · simp only [Option.some.injEq, Prod.mk.injEq] at ht2; rw [← ht2.1]; decide
      split at ht2
      · simp only [Option.some.injEq, Prod.mk.injEq] at ht2
        rw [← ht2.1]
        simp only [strOfNums, ByteArray.size, List.size_toArray, List.length_map, List.length_drop, List.length_take]
        omega
      · cases ht2
    · rw [if_neg (by rw [df_ h1]; decide)] at ht2
      simp only [Option.some.injEq, Prod.mk.injEq] at ht2; rw [← ht2.1]; decide
  · by_cases he1 : e1 = 0
    · have hlen : (b ++ q).length = b.length + q.length := List.length_append
      have e3 : wrap64 (((b ++ q).length : Int) - a1) = ((b ++ q).length : Int) - a1 := by unfold wrap64; omega
      rw [if_pos (dt_ he1)] at ht2
      show fR_Text.f (b ++ q) a fa fe 256 = _
      unfold fR_Text.f
      rw [hx he1 q hq, bs_]
      dsimp only
      rw [hr.ok, e3, if_pos (dt_ he1)]
      by_cases h5 : n > 256
      · rw [if_pos h5] at ht2 ⊢
        exact ht2
      · rw [if_neg h5] at ht2 ⊢
        by_cases h6 : n > (b.length : Int) - a1
        · rw [if_pos h6] at ht2
          simp only [Option.some.injEq, Prod.mk.injEq] at ht2
          omega
        · rw [if_neg h6, if_pos ⟨h0, n0, by omega⟩] at ht2
          rw [if_neg (by omega), if_pos ⟨h0, n0, by omega⟩, List.take_append_of_le_length (by omega)]
          exact ht2
    · rw [if_neg (by rw [df_ he1]; decide)] at ht2
      simp only [Option.some.injEq, Prod.mk.injEq] at ht2
      omega
theorem flag_cut (h : Rd b a fa fe) : Cut fR_Flag.f b a fa fe fun _ => True := by
  have hl := h.len; have h0 := h.a0; have h1 := h.a1
  have hk := h.ok
  obtain ⟨r, a', f', e', ht, hr', hz'⟩ := flag_step h
  refine ⟨r, a', f', e', ht, hr', fun hf => by rw [(hz' hf).2.2]; exact hf, trivial, fun he q hq => ?_⟩
  have hfe : fe = 0 := by
    by_cases hf : fe = 0
    · exact hf
    · have := (hz' hf).2.2; omega
  have hlen : (b ++ q).length = b.length + q.length := List.length_append
  have e1 : wrap64 ((b.length : Int) - a) = (b.length : Int) - a := by unfold wrap64; omega
  have e4 : wrap64 (((b ++ q).length : Int) - a) = ((b ++ q).length : Int) - a := by unfold wrap64; omega
  have e2 : wrap64 (a + 1) = a + 1 := by unfold wrap64; omega
  have e3 : wrap64 (a + 1 - 1) = a := by unfold wrap64; omega
  unfold fR_Flag.f at ht ⊢
  rw [okR_f, bs_] at ht ⊢
  dsimp only at ht ⊢
  rw [dt_ hfe] at hk
  rw [if_pos hk, leftR_f, bs_] at ht ⊢
  dsimp only at ht ⊢
  rw [e1, e2, e3] at ht
  rw [e4, e2, e3]
  by_cases hs : (b.length : Int) - a = 0
  · rw [if_pos hs, fail_ok hk, bs_] at ht
    simp only [Option.some.injEq, Prod.mk.injEq] at ht
    omega
  · have hrd : rd (b ++ q) a = rd b a := by
      unfold rd
      rw [List.getD_eq_getElem?_getD, List.getD_eq_getElem?_getD, List.getElem?_append_left (by omega)]
    rw [if_neg hs, if_pos h0, if_pos (by omega)] at ht
    rw [if_neg (by omega), if_pos h0, if_pos (by omega), hrd]
    by_cases hv : rd b a > 1
    · rw [if_pos hv, fail_ok hk, bs_] at ht
      simp only [Option.some.injEq, Prod.mk.injEq] at ht
      omega
    · rw [if_neg hv, if_pos h0, if_pos (by omega)] at ht
      rw [if_neg hv, if_pos h0, if_pos (by omega)]
      exact ht
theorem count_cut (h : Rd b a fa fe) : Cut (fun b a fa fe => fR_Count.f b a fa fe 32 96) b a fa fe fun r => 0 ≤ r ∧ r ≤ 32 := by
  have hl := h.len
  obtain ⟨n, a1, f1, e1, hn, hr, hz, ⟨n0, n1⟩, hx⟩ := num_cut h
  obtain ⟨r, a', f', e', ht, hr', hz'⟩ := count_step h 32 96
  have h0 := hr.a0; have h1 := hr.a1
  have hk := hr.ok
  have hm : mx (96 : Int) 1 = 96 := by decide
  have e2 : wrap64 ((b.length : Int) - a1) = (b.length : Int) - a1 := by unfold wrap64; omega
  have ht2 := ht
  unfold fR_Count.f at ht2
  rw [hn, bs_] at ht2
  dsimp only at ht2
  rw [okR_f, bs_] at ht2
  dsimp only at ht2
  refine ⟨r, a', f', e', ht, hr', fun hf => by rw [(hz' hf).2.2]; exact hf, ?_, fun he q hq => ?_⟩
  · by_cases h1 : e1 = 0
    · rw [dt_ h1] at hk
      rw [if_pos hk] at ht2
      by_cases h2 : n > 32
      · rw [if_pos h2, fail_ok hk, bs_] at ht2
        simp only [Option.some.injEq, Prod.mk.injEq] at ht2; omega
      · rw [if_neg h2, leftR_f, bs_] at ht2
        dsimp only at ht2
        rw [hm, if_neg (by decide)] at ht2
        split at ht2
        · rw [fail_ok hk, bs_] at ht2
          simp only [Option.some.injEq, Prod.mk.injEq] at ht2; omega
        · simp only [Option.some.injEq, Prod.mk.injEq] at ht2; omega
    · rw [df_ h1] at hk
      rw [if_neg (by rw [hk]; decide)] at ht2
      simp only [Option.some.injEq, Prod.mk.injEq] at ht2; omega
  · by_cases he1 : e1 = 0
    · have hlen : (b ++ q).length = b.length + q.length := List.length_append
      have e3 : wrap64 (((b ++ q).length : Int) - a1) = ((b ++ q).length : Int) - a1 := by unfold wrap64; omega
      rw [dt_ he1] at hk
      rw [if_pos hk] at ht2
      show fR_Count.f (b ++ q) a fa fe 32 96 = _
      unfold fR_Count.f
      rw [hx he1 q hq, bs_]
      dsimp only
      rw [okR_f, bs_]
      dsimp only
      rw [if_pos hk]
      by_cases h5 : n > 32
      · rw [if_pos h5, fail_ok hk, bs_] at ht2
        simp only [Option.some.injEq, Prod.mk.injEq] at ht2; omega
      · rw [if_neg h5, leftR_f, bs_] at ht2 ⊢
        dsimp only at ht2 ⊢
        rw [hm, if_neg (by decide), e2, Int.tdiv_eq_ediv_of_nonneg (by omega)] at ht2
        rw [hm, if_neg (by decide), e3, Int.tdiv_eq_ediv_of_nonneg (by omega)]
        have w1 : wrap64 (((b.length : Int) - a1) / 96) = ((b.length : Int) - a1) / 96 := by unfold wrap64; omega
        have w2 : wrap64 ((((b ++ q).length : Int) - a1) / 96) = (((b ++ q).length : Int) - a1) / 96 := by unfold wrap64; omega
        rw [w1] at ht2
        rw [w2]
        by_cases h6 : n > ((b.length : Int) - a1) / 96
        · rw [if_pos h6, fail_ok hk, bs_] at ht2
          simp only [Option.some.injEq, Prod.mk.injEq] at ht2; omega
        · rw [if_neg h6] at ht2
          rw [if_neg (by omega)]
          exact ht2
    · rw [df_ he1] at hk
      rw [if_neg (by rw [hk]; decide)] at ht2
      simp only [Option.some.injEq, Prod.mk.injEq] at ht2
      omega
theorem plan_cut (h : Rd b a fa fe) : Cut rPlan b a fa fe fun _ => True :=
  (Cut.bind (num_cut h) fun x1 _ _ _ p1 h1 => Cut.bind (num_cut h1) fun x2 _ _ _ p2 h2 => Cut.bind (num_cut h2) fun x3 _ _ _ p3 h3 => Cut.bind (num_cut h3) fun x4 _ _ _ p4 h4 => Cut.pure h4 (⟨x1, x2, x3, x4⟩ : S59) trivial).congr fun _ _ _ _ => rfl
theorem step_cut (h : Rd b a fa fe) : Cut rStep b a fa fe fun s => s.f0.size ≤ 256 ∧ s.f1.size ≤ 256 :=
  (Cut.bind (text_cut h) fun x1 _ _ _ p1 h1 => Cut.bind (text_cut h1) fun x2 _ _ _ p2 h2 => Cut.bind (num_cut h2) fun x3 _ _ _ p3 h3 => Cut.bind (plan_cut h3) fun x4 _ _ _ p4 h4 => Cut.bind (plan_cut h4) fun x5 _ _ _ p5 h5 => Cut.bind (num_cut h5) fun x6 _ _ _ p6 h6 => Cut.pure h6 (⟨x1, x2, x3, x4, x5, x6⟩ : S61) ⟨p1, p2⟩).congr fun _ _ _ _ => rfl
theorem steps_cut (d : Nat) : ∀ (l : List S61) (a fa fe : Int), Rd b a fa fe → NmS 256 l → Cut (fun b a fa fe => rSteps b d l a fa fe) b a fa fe fun l' => NmS 256 l' ∧ l'.length = l.length + d := by
  induction d with
  | zero => exact fun l a fa fe h hl => Cut.pure h l ⟨hl, rfl⟩
  | succ d ih =>
    intro l a fa fe h hl
    have key := Cut.bind (Q := fun l' => NmS 256 l' ∧ l'.length = l.length + (d + 1)) (step_cut h) (G := fun s b a fa fe => rSteps b d (l ++ [s]) a fa fe) fun s a' f' e' p h' => by
      obtain ⟨r, a', f', e', h1, h2, h3, ⟨h4, h4'⟩, h5⟩ := ih (l ++ [s]) a' f' e' h' (by
        intro x hx
        rcases List.mem_append.1 hx with hx | hx
        · exact hl x hx
        · rw [List.mem_singleton.1 hx]; exact p)
      exact ⟨r, a', f', e', h1, h2, h3, ⟨h4, by rw [h4', List.length_append, List.length_singleton]; omega⟩, h5⟩
    exact key.congr fun _ _ _ _ => rfl
theorem reply_cut (h : Rd b a fa fe) : Cut rReply b a fa fe fun x => (0 ≤ x.f0 ∧ x.f0 ≤ 4611686018427387904) ∧ (0 ≤ x.f1 ∧ x.f1 ≤ 4611686018427387904) ∧ (0 ≤ x.f3 ∧ x.f3 ≤ 4611686018427387904) :=
  (Cut.bind (num_cut h) fun x1 _ _ _ p1 h1 => Cut.bind (num_cut h1) fun x2 _ _ _ p2 h2 => Cut.bind (flag_cut h2) fun x3 _ _ _ p3 h3 => Cut.bind (num_cut h3) fun x4 _ _ _ p4 h4 => Cut.bind (flag_cut h4) fun x5 _ _ _ p5 h5 => Cut.pure h5 (⟨x1, x2, x3, x4, x5⟩ : Rp) ⟨p1, p2, p4⟩).congr fun _ _ _ _ => rfl
theorem def_cut (h : Rd b a fa fe) : ∃ n dl l a' f' e', rDef b a fa fe = some (n, dl, l, a', f', e') ∧ Rd b a' f' e' ∧ (fe ≠ 0 → e' ≠ 0) ∧ (n.size ≤ 256 ∧ NmS 256 l ∧ l.length ≤ 32) ∧ (e' = 0 → ∀ q, (b ++ q).length ≤ 100000 → rDef (b ++ q) a fa fe = some (n, dl, l, a', f', e')) := by
  obtain ⟨x1, a1, f1, e1, n1, o1, z1, p1, m1⟩ := text_cut h
  obtain ⟨x2, a2, f2, e2, n2, o2, z2, p2, m2⟩ := num_cut o1
  obtain ⟨x3, a3, f3, e3, n3, o3, z3, p3, m3⟩ := count_cut o2
  obtain ⟨x4, a4, f4, e4, n4, o4, z4, ⟨p4, p5⟩, m4⟩ := steps_cut (b := b) x3.toNat [] a3 f3 e3 o3 (fun x hx => absurd hx (by simp))
  dsimp only at n1 m1 n3 m3 n4 m4
  refine ⟨x1, x2, x4, a4, f4, e4, ?_, o4, fun h => z4 (z3 (z2 (z1 h))), ⟨p1, p4, by rw [p5, List.length_nil]; omega⟩, fun he q hq => ?_⟩
  · unfold rDef
    rw [n1, bs_]
    dsimp only
    rw [n2, bs_]
    dsimp only
    rw [n3, bs_]
    dsimp only
    rw [if_pos p3, n4, bs_]
  · have t3 : e3 = 0 := Classical.byContradiction fun h => z4 h he
    have t2 : e2 = 0 := Classical.byContradiction fun h => z3 h t3
    have t1 : e1 = 0 := Classical.byContradiction fun h => z2 h t2
    unfold rDef
    rw [m1 t1 q hq, bs_]
    dsimp only
    rw [m2 t2 q hq, bs_]
    dsimp only
    rw [m3 t3 q hq, bs_]
    dsimp only
    rw [if_pos p3, m4 he q hq, bs_]
theorem kind_cut (x0 : Int) (h : Rd b a fa fe) : ∃ nm x dn dl l a' f' e', rKind x0 b a fa fe = some (nm, x, dn, dl, l, a', f', e') ∧ Rd b a' f' e' ∧ (fe ≠ 0 → e' ≠ 0) ∧ (nm.size ≤ 256 ∧ dn.size ≤ 256 ∧ NmS 256 l ∧ l.length ≤ 32) ∧ (e' = 0 → ∀ q, (b ++ q).length ≤ 100000 → rKind x0 (b ++ q) a fa fe = some (nm, x, dn, dl, l, a', f', e')) := by
  have hn0 : NmS 256 [] := fun x hx => absurd hx (by simp)
  unfold rKind
  by_cases h0 : x0 = 0
  · simp only [if_pos h0]
    obtain ⟨n, dl, l, a', f', e', h1, h2, h3, ⟨h4, h5, h6⟩, h7⟩ := def_cut h
    rw [h1, bs_]
    refine ⟨_, _, _, _, _, _, _, _, rfl, h2, h3, ⟨by decide, h4, h5, h6⟩, fun he q hq => ?_⟩
    rw [h7 he q hq, bs_]
  · simp only [if_neg h0]
    by_cases h1 : x0 = 1
    · simp only [if_pos h1]
      obtain ⟨n, a', f', e', h1, h2, h3, h4, h7⟩ := text_cut h
      dsimp only at h1 h7
      rw [h1, bs_]
      refine ⟨_, _, _, _, _, _, _, _, rfl, h2, h3, ⟨h4, by decide, hn0, by decide⟩, fun he q hq => ?_⟩
      rw [h7 he q hq, bs_]
    · simp only [if_neg h1]
      by_cases h3 : x0 = 3
      · simp only [if_pos h3]
        obtain ⟨n, a', f', e', h1, h2, h3, h4, h7⟩ := reply_cut h
        rw [h1, bs_]
        refine ⟨_, _, _, _, _, _, _, _, rfl, h2, h3, ⟨by decide, by decide, hn0, by decide⟩, fun he q hq => ?_⟩
        rw [h7 he q hq, bs_]
      · simp only [if_neg h3]
        exact ⟨_, _, _, _, _, _, _, _, rfl, h, fun h => h, ⟨by decide, by decide, hn0, by decide⟩, fun _ _ _ => rfl⟩
end
def uR04_TakeN.f (k : Nat) (a0_0 : ByteArray) (a0_1 : Int) (a0_2 : Int) (a0_3 : Int) (a0_4 : Int) (a0_5 : ByteArray) (a0_6 : Bool) : Option (ByteArray × Int × Int × Int × Int × ByteArray × Bool) := (uR04_Take.f k a0_0 a0_1 a0_2 a0_3 a0_4 a0_5 a0_6).bind fun bt187 => (some (bt187.1, bt187.2.1, bt187.2.2.1, bt187.2.2.2.1, bt187.2.2.2.2.2.2.2, bt187.2.2.2.2.2.1, bt187.2.2.2.2.2.2.1))
def uR04_TextS.f (k : Nat) (a0_0 : ByteArray) (a0_1 : Int) (a0_2 : Int) (a0_3 : Int) (a0_4 : Int) (a0_5 : ByteArray) (a0_6 : Bool) (a1 : Int) : Option (ByteArray × Int × Int × Int × Int × ByteArray × Bool) := (uR04_Text.f k a0_0 a0_1 a0_2 a0_3 a0_4 a0_5 a0_6 a1).bind fun bt223 => (some (bt223.1, bt223.2.1, bt223.2.2.1, bt223.2.2.2.1, bt223.2.2.2.2.1, bt223.2.2.2.2.2.2.2, bt223.2.2.2.2.2.2.1))
def uR04_FlagY.f (a0_0 : ByteArray) (a0_1 : Int) (a0_2 : Int) (a0_3 : Int) (a0_4 : Int) (a0_5 : ByteArray) (a0_6 : Bool) : Option (ByteArray × Int × Int × Int × Int × ByteArray × Bool) := (uR04_Flag.f a0_0 a0_1 a0_2 a0_3 a0_4 a0_5 a0_6).bind fun bt365 => (some (bt365.1, bt365.2.1, bt365.2.2.1, bt365.2.2.2.1, bt365.2.2.2.2.1, bt365.2.2.2.2.2.1, bt365.2.2.2.2.2.2.2))
structure Over (b : List Int) (a fa fe : Int) (s : List Int) : Prop where
  rd : Rd b a fa fe
  sofar : fe = 0 → b.take a.toNat = s
theorem clampN_id {r : Int} (h0 : 0 ≤ r) (h1 : r ≤ 4611686018427387904) : clampN r = r := by
  unfold clampN mn mx
  rw [if_neg (by omega), if_neg (by omega)]
def uR04_Count.j0 : Nat → Int → Int → ByteArray → Int → Int → Int → Int → ByteArray → Bool → ByteArray → Int → Int → Int → Int → ByteArray → Bool → Option (ByteArray × Int × Int × Int × Int × ByteArray × Bool × Int)
 | 0, _, _, _, _, _, _, _, _, _, _, _, _, _, _, _, _ => none
 | k + 1, x2, x9, x233000, x233001, x233002, x233003, x233004, x233005, x233006, x243000, x243001, x243002, x243003, x243004, x243005, x243006 => if x2 = 0 then (none) else (if x9 > (wrap64 (Int.tdiv (wrap64 ((x243000.size : Int) - x243001)) x2)) then ((uR04_fail.f x233000 x233001 x233002 x233003 x233004 x233005 x233006 x233001 2).bind fun bt250 => (some (bt250.1, bt250.2.1, bt250.2.2.1, bt250.2.2.2.1, bt250.2.2.2.2.1, bt250.2.2.2.2.2.1, bt250.2.2.2.2.2.2, 0))) else (some (x243000, x243001, x243002, x243003, x243004, x243005, x243006, x9)))
def uR04_Count.f (k : Nat) (a0_0 : ByteArray) (a0_1 : Int) (a0_2 : Int) (a0_3 : Int) (a0_4 : Int) (a0_5 : ByteArray) (a0_6 : Bool) (a1 : Int) (a2 : Int) : Option (ByteArray × Int × Int × Int × Int × ByteArray × Bool × Int) := (uR04_Take.f k a0_0 a0_1 a0_2 a0_3 a0_4 a0_5 a0_6).bind fun bt234 => (if bt234.2.2.1 = 0 then (if bt234.2.2.2.2.2.2.2 > a1 then ((uR04_fail.f a0_0 a0_1 a0_2 a0_3 a0_4 a0_5 a0_6 a0_1 4).bind fun bt243 => (some (bt243.1, bt243.2.1, bt243.2.2.1, bt243.2.2.2.1, bt243.2.2.2.2.1, bt243.2.2.2.2.2.1, bt243.2.2.2.2.2.2, 0))) else (if a2 < 1 then (uR04_Count.j0 k 1 bt234.2.2.2.2.2.2.2 a0_0 a0_1 a0_2 a0_3 a0_4 a0_5 a0_6 bt234.1 bt234.2.1 bt234.2.2.1 bt234.2.2.2.1 bt234.2.2.2.2.1 bt234.2.2.2.2.2.1 bt234.2.2.2.2.2.2.1) else (uR04_Count.j0 k a2 bt234.2.2.2.2.2.2.2 a0_0 a0_1 a0_2 a0_3 a0_4 a0_5 a0_6 bt234.1 bt234.2.1 bt234.2.2.1 bt234.2.2.2.1 bt234.2.2.2.2.1 bt234.2.2.2.2.2.1 bt234.2.2.2.2.2.2.1))) else (some (bt234.1, bt234.2.1, bt234.2.2.1, bt234.2.2.2.1, bt234.2.2.2.2.1, bt234.2.2.2.2.2.1, bt234.2.2.2.2.2.2.1, 0)))

def uR15_text.f (k : Nat) (a0 : ByteArray) : Option (ByteArray) := (uR04_Num.f k (a0.size : Int)).bind fun t118 => (if t118.size + a0.size ≤ 9223372036854775807 then (some (t118 ++ a0)) else (none))
def uR15_plan.f (k : Nat) (a0_0 : Int) (a0_1 : Int) (a0_2 : Int) (a0_3 : Int) : Option (ByteArray) := (uR04_Num.f k a0_0).bind fun t120 => ((uR04_Num.f k a0_1).bind fun t121 => (if t120.size + t121.size ≤ 9223372036854775807 then ((uR04_Num.f k a0_2).bind fun t122 => (if (t120 ++ t121).size + t122.size ≤ 9223372036854775807 then ((uR04_Num.f k a0_3).bind fun t123 => (if ((t120 ++ t121) ++ t122).size + t123.size ≤ 9223372036854775807 then (some (((t120 ++ t121) ++ t122) ++ t123)) else (none))) else (none))) else (none)))
def uR15_plan.T1 : Bool × List (List Nat × List Nat) := (true, [([], []), ([0], [0]), ([1], [1]), ([], []), ([3], [3]), ([4, 2], [4]), ([2, 5], [2, 5]), ([], []), ([7], [7]), ([8, 5], [8]), ([6, 9], [6, 9]), ([], []), ([11], [11]), ([12, 9], [12]), ([10, 13], [10, 13]), ([14, 13, 0, 1, 2, 3, 4, 5, 6, 7, 8, 9, 10, 11, 12, 13, 14], [14])])
def uR15_plan.B1 : List Nat := [0, 1, 3, 0, 8, 31, 63, 0, 128, 447, 1023, 0, 2048, 7103, 16383, 32767]
def uR15_Def.l0 : Nat → ByteArray → Int → ByteArray → Int → List (S61) → Option (ByteArray)
 | 0, _, _, _, _, _ => none
 | k + 1, x3, x4, x125000, x125001, x125002 => if x4 < (x125002.length : Int) then (if 0 ≤ x4 then ((uR15_text.f k ((rT x125002 x4).f0)).bind fun t130 => (if x3.size + t130.size ≤ 9223372036854775807 then ((uR15_text.f k ((rT x125002 x4).f1)).bind fun t131 => (if (x3 ++ t130).size + t131.size ≤ 9223372036854775807 then ((uR04_Num.f k ((rT x125002 x4).f2)).bind fun t132 => (if ((x3 ++ t130) ++ t131).size + t132.size ≤ 9223372036854775807 then ((uR15_plan.f k ((rT x125002 x4).f3.f0) ((rT x125002 x4).f3.f1) ((rT x125002 x4).f3.f2) ((rT x125002 x4).f3.f3)).bind fun t133 => (if (((x3 ++ t130) ++ t131) ++ t132).size + t133.size ≤ 9223372036854775807 then ((uR15_plan.f k ((rT x125002 x4).f4.f0) ((rT x125002 x4).f4.f1) ((rT x125002 x4).f4.f2) ((rT x125002 x4).f4.f3)).bind fun t134 => (if ((((x3 ++ t130) ++ t131) ++ t132) ++ t133).size + t134.size ≤ 9223372036854775807 then ((uR04_Num.f k ((rT x125002 x4).f5)).bind fun t135 => (if (((((x3 ++ t130) ++ t131) ++ t132) ++ t133) ++ t134).size + t135.size ≤ 9223372036854775807 then (uR15_Def.l0 k ((((((x3 ++ t130) ++ t131) ++ t132) ++ t133) ++ t134) ++ t135) (wrap64 (x4 + 1)) x125000 x125001 x125002) else (none))) else (none))) else (none))) else (none))) else (none))) else (none))) else (none)) else (some x3)
def uR15_Def.f (k : Nat) (a0_0 : ByteArray) (a0_1 : Int) (l0_2 : List (S61)) : Option (ByteArray) := (uR15_text.f k a0_0).bind fun t125 => ((uR04_Num.f k a0_1).bind fun t126 => (if t125.size + t126.size ≤ 9223372036854775807 then ((uR04_Num.f k (l0_2.length : Int)).bind fun t127 => (if (t125 ++ t126).size + t127.size ≤ 9223372036854775807 then (uR15_Def.l0 k ((t125 ++ t126) ++ t127) 0 a0_0 a0_1 l0_2) else (none))) else (none)))
def uR15_Def.T1 : Bool × List (List Nat × List Nat) := (true, [([], []), ([0], [0]), ([1], [1]), ([], []), ([3], [3]), ([4, 2], [4]), ([2, 5], [2, 5]), ([], []), ([7], [7]), ([8], [8]), ([9, 5], [9]), ([6, 10], [6, 10]), ([11, 10, 0, 1, 2, 3, 4, 5, 6, 7, 8, 9, 10, 11], [11])])
def uR15_Def.B1 : List Nat := [0, 1, 3, 0, 8, 31, 63, 0, 128, 384, 959, 2047, 4095]
def uR15_Def.T6 : Bool × List (List Nat × List Nat) := (true, [([], []), ([], []), ([1], [1]), ([2], [2]), ([0, 3], [0, 3]), ([], []), ([5], [5]), ([6, 3], [6]), ([4, 7], [4, 7]), ([], []), ([9], [9]), ([10, 7], [10]), ([8, 11], [8, 11]), ([], []), ([13], [13]), ([14, 11], [14]), ([12, 15], [12, 15]), ([], []), ([17], [17]), ([18, 15], [18]), ([16, 19], [16, 19]), ([], []), ([21], [21]), ([22, 19], [22]), ([20, 23], [20, 23]), ([24, 23, 0, 1, 2, 3, 4, 5, 6, 7, 8, 9, 10, 11, 12, 13, 14, 15, 16, 17, 18, 19, 20, 21, 22, 23, 24], [0, 24])])
def uR15_Def.B6 : List Nat := [0, 0, 2, 6, 15, 0, 32, 110, 255, 0, 512, 1774, 4095, 0, 8192, 28398, 65535, 0, 131072, 454382, 1048575, 0, 2097152, 7270126, 16777215, 33554431]
def uR15_takePlan.f (k : Nat) (a0_0 : ByteArray) (a0_1 a0_2 a0_3 a0_4 : Int) (a0_5 : ByteArray) (a0_6 : Bool) : Option (ByteArray × Int × Int × Int × Int × ByteArray × Bool × Int × Int × Int × Int) :=
 (uR04_TakeN.f k a0_0 a0_1 a0_2 a0_3 a0_4 a0_5 a0_6).bind fun q1 => (uR04_TakeN.f k q1.1 q1.2.1 q1.2.2.1 q1.2.2.2.1 q1.2.2.2.2.1 q1.2.2.2.2.2.1 q1.2.2.2.2.2.2).bind fun q2 =>
 (uR04_TakeN.f k q2.1 q2.2.1 q2.2.2.1 q2.2.2.2.1 q2.2.2.2.2.1 q2.2.2.2.2.2.1 q2.2.2.2.2.2.2).bind fun q3 => (uR04_TakeN.f k q3.1 q3.2.1 q3.2.2.1 q3.2.2.2.1 q3.2.2.2.2.1 q3.2.2.2.2.2.1 q3.2.2.2.2.2.2).bind fun q4 =>
 some (q4.1, q4.2.1, q4.2.2.1, q4.2.2.2.1, q4.2.2.2.2.1, q4.2.2.2.2.2.1, q4.2.2.2.2.2.2, q1.2.2.2.2.1, q2.2.2.2.2.1, q3.2.2.2.2.1, q4.2.2.2.2.1)
structure TPl (T : TypeId) (w W : World) (g1 g2 g3 g4 : Nat) (cs c2 c3 ps : Array Value) : Prop where
 b1 : W.heap[g1]? = some (.cells cs 81 (0, 0))
 b2 : W.heap[g2]? = some (.cells c2 81 (0, 0))
 b3 : W.heap[g3]? = some (.cells c3 T (0, 0))
 b4 : W.heap[g4]? = some (.cells ps T (0, 0))
 bel : Below w.heap.size w W
 l1 : w.heap.size ≤ g1
 l2 : g1 < g2
 l3 : g2 < g3
 l4 : g3 < g4
theorem TPl.call {T : TypeId} {w W W' : World} {g1 g2 g3 g4 : Nat} {cs c2 c3 ps : Array Value} (h : TPl T w W g1 g2 g3 g4 cs c2 c3 ps) (hb : Below W.heap.size W W') : TPl T w W' g1 g2 g3 g4 cs c2 c3 ps :=
 ⟨blk_below h.b1 hb, blk_below h.b2 hb, blk_below h.b3 hb, blk_below h.b4 hb, below_step h.bel hb, h.l1, h.l2, h.l3, h.l4⟩
def uR15_TakeDef.l0 : Nat → Int → Int → ByteArray → Int → Int → Int → Int → ByteArray → Bool → ByteArray → Int → List (S61) → Option (ByteArray × Int × Int × Int × Int × ByteArray × Bool × ByteArray × Int × (List (S61)))
 | 0, _, _, _, _, _, _, _, _, _, _, _, _ => none
 | k + 1, x5, x6, x258000, x258001, x258002, x258003, x258004, x258005, x258006, x261000, x261001, x261002 => if x6 < x5 then ((uR04_TextS.f k x258000 x258001 x258002 x258003 x258004 x258005 x258006 256).bind fun bt284 => ((uR04_TextS.f k bt284.1 bt284.2.1 bt284.2.2.1 bt284.2.2.2.1 bt284.2.2.2.2.1 bt284.2.2.2.2.2.1 bt284.2.2.2.2.2.2 256).bind fun bt291 => ((uR04_TakeN.f k bt291.1 bt291.2.1 bt291.2.2.1 bt291.2.2.2.1 bt291.2.2.2.2.1 bt291.2.2.2.2.2.1 bt291.2.2.2.2.2.2).bind fun bt298 => ((uR15_takePlan.f k bt298.1 bt298.2.1 bt298.2.2.1 bt298.2.2.2.1 bt298.2.2.2.2.1 bt298.2.2.2.2.2.1 bt298.2.2.2.2.2.2).bind fun bt305 => ((uR15_takePlan.f k bt305.1 bt305.2.1 bt305.2.2.1 bt305.2.2.2.1 bt305.2.2.2.2.1 bt305.2.2.2.2.2.1 bt305.2.2.2.2.2.2.1).bind fun bt318 => ((uR04_TakeN.f k bt318.1 bt318.2.1 bt318.2.2.1 bt318.2.2.2.1 bt318.2.2.2.2.1 bt318.2.2.2.2.2.1 bt318.2.2.2.2.2.2.1).bind fun bt331 => (if x261002.length < 1256584717458 then (uR15_TakeDef.l0 k x5 (wrap64 (x6 + 1)) bt331.1 bt331.2.1 bt331.2.2.1 bt331.2.2.2.1 bt331.2.2.2.2.1 bt331.2.2.2.2.2.1 bt331.2.2.2.2.2.2 x261000 x261001 (x261002 ++ [(⟨bt284.2.2.2.2.2.1, bt291.2.2.2.2.2.1, bt298.2.2.2.2.1, (⟨bt305.2.2.2.2.2.2.2.1, bt305.2.2.2.2.2.2.2.2.1, bt305.2.2.2.2.2.2.2.2.2.1, bt305.2.2.2.2.2.2.2.2.2.2⟩ : S59), (⟨bt318.2.2.2.2.2.2.2.1, bt318.2.2.2.2.2.2.2.2.1, bt318.2.2.2.2.2.2.2.2.2.1, bt318.2.2.2.2.2.2.2.2.2.2⟩ : S59), bt331.2.2.2.2.1⟩ : S61)])) else (none)))))))) else (some (x258000, x258001, x258002, x258003, x258004, x258005, x258006, x261000, x261001, x261002))
def uR15_TakeDef.f (k : Nat) (a0_0 : ByteArray) (a0_1 : Int) (a0_2 : Int) (a0_3 : Int) (a0_4 : Int) (a0_5 : ByteArray) (a0_6 : Bool) : Option (ByteArray × Int × Int × Int × Int × ByteArray × Bool × ByteArray × Int × (List (S61))) := (uR04_TextS.f k a0_0 a0_1 a0_2 a0_3 a0_4 a0_5 a0_6 256).bind fun bt261 => ((uR04_TakeN.f k bt261.1 bt261.2.1 bt261.2.2.1 bt261.2.2.2.1 bt261.2.2.2.2.1 bt261.2.2.2.2.2.1 bt261.2.2.2.2.2.2).bind fun bt268 => ((uR04_Count.f k bt268.1 bt268.2.1 bt268.2.2.1 bt268.2.2.2.1 bt268.2.2.2.2.1 bt268.2.2.2.2.2.1 bt268.2.2.2.2.2.2 32 96).bind fun bt275 => (uR15_TakeDef.l0 k bt275.2.2.2.2.2.2.2 0 bt275.1 bt275.2.1 bt275.2.2.1 bt275.2.2.2.1 bt275.2.2.2.2.1 bt275.2.2.2.2.2.1 bt275.2.2.2.2.2.2.1 bt261.2.2.2.2.2.1 bt268.2.2.2.2.1 ([] : List (S61)))))
structure TDx (w W : World) (g1 g2 g3 g4 gx : Nat) (cs c2 c3 ps xs : Array Value) (v : Value) (l : List S61) : Prop where
 t : TPl 24 w W g1 g2 g3 g4 cs c2 c3 ps
 x : W.heap[gx]? = some (.cells xs 61 (0, 0))
 lx : g4 < gx
 r : Kd.R k61 61 W w.heap.size (fun k => k ≠ gx) v l
theorem TDx.call {w W W' : World} {g1 g2 g3 g4 gx : Nat} {cs c2 c3 ps xs : Array Value} {v : Value} {l : List S61} (h : TDx w W g1 g2 g3 g4 gx cs c2 c3 ps xs v l) (hb : Below W.heap.size W W') : TDx w W' g1 g2 g3 g4 gx cs c2 c3 ps xs v l :=
 ⟨h.t.call hb, blk_below h.x hb, h.lx, Kd.R_below h.r hb⟩
theorem TPl.grown {T : TypeId} {w W W' : World} {g1 g2 g3 g4 : Nat} {cs c2 c3 ps : Array Value} {row : Option Nat} (h : TPl T w W g1 g2 g3 g4 cs c2 c3 ps) (hg : W.grownBy W' row) (n1 : some g1 ≠ row) (n2 : some g2 ≠ row) (n3 : some g3 ≠ row) (n4 : some g4 ≠ row) (hB : ∀ k, row = some k → w.heap.size ≤ k) : TPl T w W' g1 g2 g3 g4 cs c2 c3 ps :=
 ⟨blk_grown h.b1 hg n1, blk_grown h.b2 hg n2, blk_grown h.b3 hg n3, blk_grown h.b4 hg n4, h.bel.grown hg h.bel.size hB, h.l1, h.l2, h.l3, h.l4⟩
def uR15_ReadDef.f (k : Nat) (a0 : ByteArray) : Option (ByteArray × Int × (List (S61)) × Int × Int) := (uR15_TakeDef.f k a0 0 0 0 0 (⟨#[]⟩ : ByteArray) false).bind fun bt267 => ((uR04_End.f bt267.1 bt267.2.1 bt267.2.2.1 bt267.2.2.2.1 bt267.2.2.2.2.1 bt267.2.2.2.2.2.1 bt267.2.2.2.2.2.2.1).bind fun bt281 => (if bt281.2.2.1 = 0 then ((uK.f k bt267.2.2.2.2.2.2.2.1 bt267.2.2.2.2.2.2.2.2.1 bt267.2.2.2.2.2.2.2.2.2).bind fun bt288 => (if bt288.2 = 0 then (some (bt267.2.2.2.2.2.2.2.1, bt267.2.2.2.2.2.2.2.2.1, bt267.2.2.2.2.2.2.2.2.2, 0, 0)) else (some ((⟨#[]⟩ : ByteArray), 0, ([] : List (S61)), 0, 11)))) else (some ((⟨#[]⟩ : ByteArray), 0, ([] : List (S61)), bt281.2.2.2.1, bt281.2.2.1))))
def uR15_ReadDef.T4 : Bool × List (List Nat × List Nat) := (true, [([], []), ([], []), ([1], [1]), ([], []), ([3], [3]), ([0, 0], [0]), ([2, 5, 0, 1, 2, 5], [2]), ([4, 6, 0, 1, 2, 3, 4, 5, 6], [4])])
def uR15_ReadDef.B4 : List Nat := [0, 0, 2, 0, 8, 1, 39, 127]
def PlanN (p : S59) : Prop := (0 ≤ p.f0 ∧ p.f0 ≤ 4611686018427387904) ∧ (0 ≤ p.f1 ∧ p.f1 ≤ 4611686018427387904) ∧ (0 ≤ p.f2 ∧ p.f2 ≤ 4611686018427387904) ∧ (0 ≤ p.f3 ∧ p.f3 ≤ 4611686018427387904)
def StepN (s : S61) : Prop := (0 ≤ s.f2 ∧ s.f2 ≤ 4611686018427387904) ∧ PlanN s.f3 ∧ PlanN s.f4 ∧ (0 ≤ s.f5 ∧ s.f5 ≤ 4611686018427387904)
theorem num_bk {b p q : List Int} {m : Int} (h0 : 0 ≤ m) (h1 : m ≤ 4611686018427387904) (hb : b = p ++ (nbs (clampN m) 8 ++ q)) (hl : b.length ≤ 100000) : fR_Num.f b (p.length : Int) 0 0 = some (m, ((p ++ nbs (clampN m) 8).length : Int), 0, 0) := by
  rw [clampN_id h0 h1] at hb ⊢
  rw [← List.append_assoc] at hb
  subst hb
  rw [num_back p q m h0 h1 hl, List.length_append, nbs_len]
theorem text_bk {b p q : List Int} {s : ByteArray} {most : Int} (hs : (s.size : Int) ≤ most) (hb : b = p ++ (nbs (clampN s.size) 8 ++ (bytesOf s ++ q))) (hl : b.length ≤ 100000) : fR_Text.f b (p.length : Int) 0 0 most = some (s, ((p ++ nbs (clampN s.size) 8 ++ bytesOf s).length : Int), 0, 0) := by
  have e : b = p ++ (nbs (clampN s.size) 8 ++ bytesOf s) ++ q := by rw [hb]; simp only [List.append_assoc]
  subst e
  rw [text_back p q s most hs hl, List.length_append, List.length_append, nbs_len, bytesOf_length]
theorem count_bk {b p q : List Int} {c : Nat} (hc : c ≤ 32) (hq : 96 * c ≤ q.length) (hb : b = p ++ (nbs (clampN (c : Int)) 8 ++ q)) (hl : b.length ≤ 100000) : fR_Count.f b (p.length : Int) 0 0 32 96 = some ((c : Int), ((p ++ nbs (clampN (c : Int)) 8).length : Int), 0, 0) := by
  unfold fR_Count.f
  rw [num_bk (by omega) (by omega) hb hl, bs_]
  dsimp only
  rw [okR_f, bs_]
  dsimp only
  rw [if_pos (by rfl), if_neg (by omega), leftR_f, bs_]
  dsimp only
  have hlen : b.length = p.length + 8 + q.length := by rw [hb]; simp [nbs_len]; omega
  have hp : (p ++ nbs (clampN (c : Int)) 8).length = p.length + 8 := by rw [List.length_append, nbs_len]
  have hm : mx (96 : Int) 1 = 96 := by decide
  rw [hm, if_neg (by decide), hp]
  have e1 : wrap64 ((b.length : Int) - ((p.length + 8 : Nat) : Int)) = (q.length : Int) := by unfold wrap64; omega
  rw [e1, Int.tdiv_eq_ediv_of_nonneg (by omega), if_neg (by unfold wrap64; omega)]
theorem plan_bk {b p q : List Int} {x : S59} (hx : PlanN x) (hb : b = p ++ (planW x ++ q)) (hl : b.length ≤ 100000) : rPlan b (p.length : Int) 0 0 = some (x, ((p ++ planW x).length : Int), 0, 0) := by
  obtain ⟨⟨a0, a1⟩, ⟨b0, b1⟩, ⟨c0, c1⟩, ⟨d0, d1⟩⟩ := hx
  obtain ⟨x0, x1, x2, x3⟩ := x
  have e : planW ⟨x0, x1, x2, x3⟩ = nbs (clampN x0) 8 ++ nbs (clampN x1) 8 ++ nbs (clampN x2) 8 ++ nbs (clampN x3) 8 := by
    simp only [planW, encN, List.flatMap_cons, List.flatMap_nil, List.append_nil, List.append_assoc]
  rw [e] at hb ⊢
  unfold rPlan
  rw [num_bk (q := nbs (clampN x1) 8 ++ nbs (clampN x2) 8 ++ nbs (clampN x3) 8 ++ q) a0 a1 (by rw [hb]; simp only [List.append_assoc]) hl, bs_]
  dsimp only
  rw [num_bk (q := nbs (clampN x2) 8 ++ nbs (clampN x3) 8 ++ q) b0 b1 (by rw [hb]; simp only [List.append_assoc]) hl, bs_]
  dsimp only
  rw [num_bk (q := nbs (clampN x3) 8 ++ q) c0 c1 (by rw [hb]; simp only [List.append_assoc]) hl, bs_]
  dsimp only
  rw [num_bk (q := q) d0 d1 (by rw [hb]; simp only [List.append_assoc]) hl, bs_]
  simp only [List.append_assoc]
theorem step_bk {b p q : List Int} {x : S61} (hx : StepN x) (h0 : x.f0.size ≤ 256) (h1 : x.f1.size ≤ 256) (hb : b = p ++ (stepW x ++ q)) (hl : b.length ≤ 100000) : rStep b (p.length : Int) 0 0 = some (x, ((p ++ stepW x).length : Int), 0, 0) := by
  obtain ⟨⟨a0, a1⟩, hp3, hp4, ⟨d0, d1⟩⟩ := hx
  obtain ⟨x0, x1, x2, x3, x4, x5⟩ := x
  have e : stepW ⟨x0, x1, x2, x3, x4, x5⟩ = nbs (clampN x0.size) 8 ++ bytesOf x0 ++ nbs (clampN x1.size) 8 ++ bytesOf x1 ++ nbs (clampN x2) 8 ++ planW x3 ++ planW x4 ++ nbs (clampN x5) 8 := by
    simp only [stepW, List.append_assoc]
  rw [e] at hb ⊢
  unfold rStep
  rw [text_bk (s := x0) (q := nbs (clampN x1.size) 8 ++ bytesOf x1 ++ nbs (clampN x2) 8 ++ planW x3 ++ planW x4 ++ nbs (clampN x5) 8 ++ q) (by dsimp only at h0; omega) (by rw [hb]; simp only [List.append_assoc]) hl, bs_]
  dsimp only
  rw [text_bk (s := x1) (q := nbs (clampN x2) 8 ++ planW x3 ++ planW x4 ++ nbs (clampN x5) 8 ++ q) (by dsimp only at h1; omega) (by rw [hb]; simp only [List.append_assoc]) hl, bs_]
  dsimp only
  rw [num_bk (q := planW x3 ++ planW x4 ++ nbs (clampN x5) 8 ++ q) a0 a1 (by rw [hb]; simp only [List.append_assoc]) hl, bs_]
  dsimp only
  rw [plan_bk (q := planW x4 ++ nbs (clampN x5) 8 ++ q) hp3 (by rw [hb]; simp only [List.append_assoc]) hl, bs_]
  dsimp only
  rw [plan_bk (q := nbs (clampN x5) 8 ++ q) hp4 (by rw [hb]; simp only [List.append_assoc]) hl, bs_]
  dsimp only
  rw [num_bk (q := q) d0 d1 (by rw [hb]; simp only [List.append_assoc]) hl, bs_]
  simp only [List.append_assoc]
theorem steps_bk {b : List Int} (hl : b.length ≤ 100000) : ∀ (l2 l : List S61) (p q : List Int), (∀ x ∈ l2, StepN x ∧ x.f0.size ≤ 256 ∧ x.f1.size ≤ 256) → b = p ++ (stepsW l2 ++ q) → rSteps b l2.length l (p.length : Int) 0 0 = some (l ++ l2, ((p ++ stepsW l2).length : Int), 0, 0)
  | [], l, p, q, _, _ => by
    show rSteps b 0 l _ 0 0 = _
    rw [rSteps, List.append_nil]
    simp [stepsW]
  | x :: l2, l, p, q, hx, hb => by
    have h := hx x (by simp)
    have e : stepsW (x :: l2) = stepW x ++ stepsW l2 := by simp only [stepsW, List.flatMap_cons]
    rw [e] at hb ⊢
    show rSteps b (l2.length + 1) l _ 0 0 = _
    rw [rSteps, step_bk (q := stepsW l2 ++ q) h.1 h.2.1 h.2.2 (by rw [hb]; simp only [List.append_assoc]) hl, bs_]
    dsimp only
    rw [steps_bk hl l2 (l ++ [x]) (p ++ stepW x) q (fun y hy => hx y (by simp [hy])) (by rw [hb]; simp only [List.append_assoc]), List.append_assoc]
    simp only [List.append_assoc, List.cons_append, List.nil_append]
theorem stepsW_len (l : List S61) : 96 * l.length ≤ (stepsW l).length := by
  induction l with
  | nil => simp [stepsW]
  | cons x l ih =>
    have e : stepsW (x :: l) = stepW x ++ stepsW l := by simp only [stepsW, List.flatMap_cons]
    rw [e, List.length_append, stepW_len, List.length_cons]
    omega
theorem def_bk {b p q : List Int} {n : ByteArray} {dl : Int} {l : List S61} (hn : n.size ≤ 256) (hd : 0 ≤ dl ∧ dl ≤ 4611686018427387904) (hl2 : l.length ≤ 32) (hx : ∀ x ∈ l, StepN x ∧ x.f0.size ≤ 256 ∧ x.f1.size ≤ 256) (hb : b = p ++ (defW n dl l ++ q)) (hl : b.length ≤ 100000) : rDef b (p.length : Int) 0 0 = some (n, dl, l, ((p ++ defW n dl l).length : Int), 0, 0) := by
  have e : defW n dl l = nbs (clampN n.size) 8 ++ bytesOf n ++ nbs (clampN dl) 8 ++ nbs (clampN (l.length : Int)) 8 ++ stepsW l := by
    simp only [defW, encN, List.flatMap_cons, List.flatMap_nil, List.append_nil, List.append_assoc]
  rw [e] at hb ⊢
  have hsl := stepsW_len l
  unfold rDef
  rw [text_bk (s := n) (q := nbs (clampN dl) 8 ++ nbs (clampN (l.length : Int)) 8 ++ stepsW l ++ q) (by omega) (by rw [hb]; simp only [List.append_assoc]) hl, bs_]
  dsimp only
  rw [num_bk (q := nbs (clampN (l.length : Int)) 8 ++ stepsW l ++ q) hd.1 hd.2 (by rw [hb]; simp only [List.append_assoc]) hl, bs_]
  dsimp only
  rw [count_bk (c := l.length) (q := stepsW l ++ q) hl2 (by rw [List.length_append]; omega) (by rw [hb]; simp only [List.append_assoc]) hl, bs_]
  dsimp only
  rw [if_pos ⟨by omega, by omega⟩, Int.toNat_natCast, steps_bk hl l [] _ q hx (by rw [hb]; simp only [List.append_assoc]), bs_]
  simp only [List.append_assoc, List.nil_append]
theorem plan_n {p : S59} (h : planP p = true) : PlanN p := by
  unfold planP at h
  have := of_decide_eq_true h
  unfold PlanN
  omega
theorem stepR_n {l : List S61} {i : Nat} {x : S61} (h : stepR l i x = 0) : StepN x := by
  unfold stepR stepB at h
  split at h
  · exact absurd h (by decide)
  split at h
  · exact absurd h (by decide)
  split at h
  · exact absurd h (by decide)
  split at h
  · exact absurd h (by decide)
  rename_i h1 h2 h3 h4
  have hn : numB x = false := by simpa using h3
  have hp : (planP x.f3 && planP x.f4) = true := by
    cases e : (planP x.f3 && planP x.f4) with
    | true => rfl
    | false => exact absurd e h4
  rw [Bool.and_eq_true] at hp
  unfold numB at hn
  have := of_decide_eq_false hn
  exact ⟨by omega, plan_n hp.1, plan_n hp.2, by omega⟩
theorem chkL_n (l : List S61) : ∀ (d i : Nat), l.length - i ≤ d → (chkL l d i).2 = 0 → ∀ j, i ≤ j → ∀ (hj : j < l.length), StepN l[j]
  | 0, i, hd, _, j, hij, hj => absurd hj (by omega)
  | d + 1, i, hd, h, j, hij, hj => by
    rw [chkL, dif_pos (by omega)] at h
    by_cases h0 : stepR l i (l[i]'(by omega)) = 0
    · rw [if_pos h0] at h
      by_cases e : j = i
      · subst e; exact stepR_n h0
      · exact chkL_n l d (i + 1) (by omega) h j (by omega) hj
    · rw [if_neg h0] at h
      exact absurd h h0
theorem chkD_n {n : ByteArray} {dl : Int} {l : List S61} (h : (chkD n dl l).2 = 0) : (0 ≤ dl ∧ dl ≤ 4611686018427387904) ∧ l.length ≤ 32 ∧ ∀ x ∈ l, StepN x := by
  unfold chkD at h
  split at h
  · exact absurd h (by decide)
  split at h
  · exact absurd h (by decide)
  split at h
  · exact absurd h (by decide)
  split at h
  · exact absurd h (by decide)
  rename_i h1 h2 h3 h4
  refine ⟨?_, by omega, fun x hx => ?_⟩
  · have := Classical.not_not.1 h2
    omega
  · obtain ⟨j, hj, rfl⟩ := List.getElem_of_mem hx
    exact chkL_n l l.length 0 (by omega) h j (by omega) hj
attribute [local go_sem high] eqA40
mutual
def uR15_Good.j0 : Nat → Bool → Int → Int → Int → ByteArray → Int → Int → Bool → Int → Bool → ByteArray → Int → List (S61) → Option (Bool)
 | 0, _, _, _, _, _, _, _, _, _, _, _, _, _ => none
 | k + 1, x28, x343000, x343001, x343002, x343003, x343004, x343005, x343006, x343007, x343008, x343009, x343010, x343011 => if x28 = true then (some false) else (if x343000 = 0 then (uR15_Good.j1 k false x343000 x343001 x343002 x343003 x343004 x343005 x343006 x343007 x343008 x343009 x343010 x343011) else (if x343009.toList = ([] : List UInt8) then (if x343010 = 0 then (uR15_Good.j1 k (decide ((x343011.length : Int) > 0)) x343000 x343001 x343002 x343003 x343004 x343005 x343006 x343007 x343008 x343009 x343010 x343011) else (uR15_Good.j1 k true x343000 x343001 x343002 x343003 x343004 x343005 x343006 x343007 x343008 x343009 x343010 x343011)) else (uR15_Good.j1 k true x343000 x343001 x343002 x343003 x343004 x343005 x343006 x343007 x343008 x343009 x343010 x343011)))
def uR15_Good.j1 : Nat → Bool → Int → Int → Int → ByteArray → Int → Int → Bool → Int → Bool → ByteArray → Int → List (S61) → Option (Bool)
 | 0, _, _, _, _, _, _, _, _, _, _, _, _, _ => none
 | k + 1, x50, x343000, x343001, x343002, x343003, x343004, x343005, x343006, x343007, x343008, x343009, x343010, x343011 => if x50 = true then (some false) else (if x343000 = 1 then (uR15_Good.j2 k false x343000 x343001 x343002 x343003 x343004 x343005 x343006 x343007 x343008 x343009 x343010 x343011) else (uR15_Good.j2 k (x343003.toList != ([] : List UInt8)) x343000 x343001 x343002 x343003 x343004 x343005 x343006 x343007 x343008 x343009 x343010 x343011))
def uR15_Good.j2 : Nat → Bool → Int → Int → Int → ByteArray → Int → Int → Bool → Int → Bool → ByteArray → Int → List (S61) → Option (Bool)
 | 0, _, _, _, _, _, _, _, _, _, _, _, _, _ => none
 | k + 1, x58, x343000, x343001, x343002, x343003, x343004, x343005, x343006, x343007, x343008, x343009, x343010, x343011 => if x58 = true then (some false) else (if x343000 = 3 then (uR15_Good.j3 k false x343000 x343001 x343002 x343003 x343004 x343005 x343006 x343007 x343008 x343009 x343010 x343011) else (uR15_Good.j3 k (!(x343004 == 0) || (!(x343005 == 0) || (x343006 || (!(x343007 == 0) || (x343008))))) x343000 x343001 x343002 x343003 x343004 x343005 x343006 x343007 x343008 x343009 x343010 x343011))
def uR15_Good.j3 : Nat → Bool → Int → Int → Int → ByteArray → Int → Int → Bool → Int → Bool → ByteArray → Int → List (S61) → Option (Bool)
 | 0, _, _, _, _, _, _, _, _, _, _, _, _, _ => none
 | k + 1, x68, x343000, x343001, x343002, x343003, x343004, x343005, x343006, x343007, x343008, x343009, x343010, x343011 => if x68 = true then (some false) else (if x343000 = 0 then ((uK.f k x343009 x343010 x343011).bind fun bt344 => (if bt344.2 = 0 then (some (x343002 == 0)) else (some false))) else (if x343000 = 1 then ((uR02_Good.f k x343003).bind fun t346 => (some t346)) else (if x343004 ≥ 0 then (if x343005 ≥ 0 then (some (decide (x343007 ≥ 0))) else (some false)) else (some false))))
end
def uR15_Good.f (k : Nat) (a0_0 : Int) (a0_1 : Int) (a0_2 : Int) (a0_3 : ByteArray) (a0_4 : Int) (a0_5 : Int) (a0_6 : Bool) (a0_7 : Int) (a0_8 : Bool) (a0_9 : ByteArray) (a0_10 : Int) (l0_11 : List (S61)) : Option (Bool) := if a0_0 < 0 then (uR15_Good.j0 k true a0_0 a0_1 a0_2 a0_3 a0_4 a0_5 a0_6 a0_7 a0_8 a0_9 a0_10 l0_11) else (if a0_0 > 10 then (uR15_Good.j0 k true a0_0 a0_1 a0_2 a0_3 a0_4 a0_5 a0_6 a0_7 a0_8 a0_9 a0_10 l0_11) else (if a0_1 < 0 then (uR15_Good.j0 k true a0_0 a0_1 a0_2 a0_3 a0_4 a0_5 a0_6 a0_7 a0_8 a0_9 a0_10 l0_11) else (if a0_1 > 1099511627776 then (uR15_Good.j0 k true a0_0 a0_1 a0_2 a0_3 a0_4 a0_5 a0_6 a0_7 a0_8 a0_9 a0_10 l0_11) else (uR15_Good.j0 k (decide (a0_2 < 0)) a0_0 a0_1 a0_2 a0_3 a0_4 a0_5 a0_6 a0_7 a0_8 a0_9 a0_10 l0_11))))
theorem uR15_Good.calls (k : Nat) (a0_0 : Int) (a0_1 : Int) (a0_2 : Int) (a0_3 : ByteArray) (a0_4 : Int) (a0_5 : Int) (a0_6 : Bool) (a0_7 : Int) (a0_8 : Bool) (a0_9 : ByteArray) (a0_10 : Int) (A0_11 : Option Addr) (c0_11 : Nat) (l0_11 : List (S61)) (r : Bool) (w : World) (hr0_11 : Kd.C k61 w A0_11 l0_11.length l0_11) (hc0_11 : l0_11.length ≤ c0_11) (h : uR15_Good.f k a0_0 a0_1 a0_2 a0_3 a0_4 a0_5 a0_6 a0_7 a0_8 a0_9 a0_10 l0_11 = some r) :
 Calls Tryd.prog 18 #[.agg #[.int .i64 a0_0, .int .i64 a0_1, .int .i64 a0_2, .string a0_3, .int .i64 a0_4, .int .i64 a0_5, .bool a0_6, .int .i64 a0_7, .bool a0_8, .string a0_9, .int .i64 a0_10, .slice A0_11 l0_11.length c0_11]] w fun e w' => e = .returned (.bool r) ∧ Below w.heap.size w w' := by
 have hu42 := Tryd.underlying42
 have hu40 := Tryd.underlying40
 have hu24 := Tryd.underlying24
 have HR0_11 := ak_ hr0_11
 have HC0_11 := ak_ hc0_11
 clear hr0_11 hc0_11
 have HB := ak_ (Below.refl w.heap.size w)
 have H : (if a0_0 < 0 then (uR15_Good.j0 k true a0_0 a0_1 a0_2 a0_3 a0_4 a0_5 a0_6 a0_7 a0_8 a0_9 a0_10 l0_11) else (if a0_0 > 10 then (uR15_Good.j0 k true a0_0 a0_1 a0_2 a0_3 a0_4 a0_5 a0_6 a0_7 a0_8 a0_9 a0_10 l0_11) else (if a0_1 < 0 then (uR15_Good.j0 k true a0_0 a0_1 a0_2 a0_3 a0_4 a0_5 a0_6 a0_7 a0_8 a0_9 a0_10 l0_11) else (if a0_1 > 1099511627776 then (uR15_Good.j0 k true a0_0 a0_1 a0_2 a0_3 a0_4 a0_5 a0_6 a0_7 a0_8 a0_9 a0_10 l0_11) else (uR15_Good.j0 k (decide (a0_2 < 0)) a0_0 a0_1 a0_2 a0_3 a0_4 a0_5 a0_6 a0_7 a0_8 a0_9 a0_10 l0_11))))) = some r := h
 clear h
 have HC2 := ak_ H
 clear H
 go_enter Tryd.func18, Tryd.ntmps18
 go_upto_region 1 with (first | ((with_reducible refine gate_dst (N := 1) rfl ?_); (try (refine gate_guard (by rfl) ?_; dsimp only)); refine box_event ?hg (N := 1) ?hd (cs := #[.int .i64 a0_0, .int .i64 a0_1, .int .i64 a0_2, .string a0_3, .int .i64 a0_4, .int .i64 a0_5, .bool a0_6, .int .i64 a0_7, .bool a0_8, .string a0_9, .int .i64 a0_10, .slice A0_11 l0_11.length c0_11]) (t := 42) ?hr ?_; (case hd | hg => rfl); (case hr => first | (go_simp; done) | (go_simp; rfl)); intro gb342 hg w3 hbox hb; have n0_ := ak_ (ps (by with_reducible repeat first | exact HB.out | apply pa | apply pd | apply pe) hb); have n1_ := ak_ (hbox); have n2_ := ak_ ((by rw [hg]; exact (below_size (by with_reducible repeat first | exact HB.out | apply pa | apply pd | apply pe)) : w.heap.size ≤ gb342)); have n3_ := ak_ ((by rw [hg]; exact (below_size (by with_reducible repeat first | exact HB.out | apply pa | apply pd | apply pe)) : w.heap.size ≤ gb342)); clear HB; have HB := n0_; have BK342 := n1_; have GW342 := n2_; have GE342 := n3_; clear n0_ n1_ n2_ n3_ hb hbox hg))
 (try simp only [Act.put, sa_, sz_, ss_])
 go_cut [28] (fun v28 wc => ∃ (kq : Nat) (x28_1 : Bool), v28 = .bool x28_1 ∧ Aside0 (uR15_Good.j0 kq x28_1 a0_0 a0_1 a0_2 a0_3 a0_4 a0_5 a0_6 a0_7 a0_8 a0_9 a0_10 l0_11 = some r) ∧ Aside0 (kq ≤ k) ∧ Aside0 (wc.heap[gb342]? = some (.cells #[.int .i64 a0_0, .int .i64 a0_1, .int .i64 a0_2, .string a0_3, .int .i64 a0_4, .int .i64 a0_5, .bool a0_6, .int .i64 a0_7, .bool a0_8, .string a0_9, .int .i64 a0_10, (.slice A0_11 l0_11.length c0_11)] 42 (0, 0))) ∧ Aside0 (Below w.heap.size w wc))
 case first =>
  have H := HC2.out
  clear HC2
  by_cases c4 : a0_0 < 0
  · rw [if_pos c4] at H
    have c4b0 : decide (a0_0 < 0) = true := dt_ c4
    clear c4
    (first | rw [c4b0] | (simp only [i64_w, i32_w]; rw [c4b0]) | skip)
    have H' := ak_ H
    clear H
    have hcz5_0 : w3.cell? ⟨gb342, 0, none⟩ = some (.int .i64 a0_0) := (zc BK342.out 0).trans rfl
    have hcz5_1 : w3.cell? ⟨gb342, 1, none⟩ = some (.int .i64 a0_1) := (zc BK342.out 1).trans rfl
    have hcz5_2 : w3.cell? ⟨gb342, 2, none⟩ = some (.int .i64 a0_2) := (zc BK342.out 2).trans rfl
    have hcz5_3 : w3.cell? ⟨gb342, 3, none⟩ = some (.string a0_3) := (zc BK342.out 3).trans rfl
    have hcz5_4 : w3.cell? ⟨gb342, 4, none⟩ = some (.int .i64 a0_4) := (zc BK342.out 4).trans rfl
    have hcz5_5 : w3.cell? ⟨gb342, 5, none⟩ = some (.int .i64 a0_5) := (zc BK342.out 5).trans rfl
    have hcz5_6 : w3.cell? ⟨gb342, 6, none⟩ = some (.bool a0_6) := (zc BK342.out 6).trans rfl
    have hcz5_7 : w3.cell? ⟨gb342, 7, none⟩ = some (.int .i64 a0_7) := (zc BK342.out 7).trans rfl
    have hcz5_8 : w3.cell? ⟨gb342, 8, none⟩ = some (.bool a0_8) := (zc BK342.out 8).trans rfl
    have hcz5_9 : w3.cell? ⟨gb342, 9, none⟩ = some (.string a0_9) := (zc BK342.out 9).trans rfl
    have hcz5_10 : w3.cell? ⟨gb342, 10, none⟩ = some (.int .i64 a0_10) := (zc BK342.out 10).trans rfl
    have hcz5_11 : w3.cell? ⟨gb342, 11, none⟩ = some (.slice A0_11 l0_11.length c0_11) := (zc BK342.out 11).trans rfl
    have hfz5_0 := zf BK342.out 0
    have hfz5_1 := zf BK342.out 1
    have hfz5_2 := zf BK342.out 2
    have hfz5_3 := zf BK342.out 3
    have hfz5_4 := zf BK342.out 4
    have hfz5_5 := zf BK342.out 5
    have hfz5_6 := zf BK342.out 6
    have hfz5_7 := zf BK342.out 7
    have hfz5_8 := zf BK342.out 8
    have hfz5_9 := zf BK342.out 9
    have hfz5_10 := zf BK342.out 10
    have hfz5_11 := zf BK342.out 11
    go_wp2
    go_meet
    case rel => exact ⟨_, (true), (by first | rfl | (simp [*]; done) | (generalize a0_3.toList = z_; cases z_ <;> first | rfl | (simp; done))), H', ⟨by first | omega | exact Nat.le_refl _⟩, ⟨by (with_reducible repeat (first | apply zn | apply zd | apply za)); exact BK342.out⟩, ⟨by repeat (first | (with_reducible first | exact HB.out | apply pa | apply pd | apply pe | refine zs ?_ GE342.out) | exact HB.out)⟩⟩
  rw [if_neg c4] at H
  have c4b0 : decide (a0_0 < 0) = false := df_ c4
  clear c4
  (first | rw [c4b0] | (simp only [i64_w, i32_w]; rw [c4b0]) | skip)
  by_cases c6 : a0_0 > 10
  · rw [if_pos c6] at H
    have c6b0 : decide (10 < a0_0) = true := dt_ c6
    clear c6
    have H' := ak_ H
    clear H
    have hcz7_0 : w3.cell? ⟨gb342, 0, none⟩ = some (.int .i64 a0_0) := (zc BK342.out 0).trans rfl
    have hcz7_1 : w3.cell? ⟨gb342, 1, none⟩ = some (.int .i64 a0_1) := (zc BK342.out 1).trans rfl
    have hcz7_2 : w3.cell? ⟨gb342, 2, none⟩ = some (.int .i64 a0_2) := (zc BK342.out 2).trans rfl
    have hcz7_3 : w3.cell? ⟨gb342, 3, none⟩ = some (.string a0_3) := (zc BK342.out 3).trans rfl
    have hcz7_4 : w3.cell? ⟨gb342, 4, none⟩ = some (.int .i64 a0_4) := (zc BK342.out 4).trans rfl
    have hcz7_5 : w3.cell? ⟨gb342, 5, none⟩ = some (.int .i64 a0_5) := (zc BK342.out 5).trans rfl
    have hcz7_6 : w3.cell? ⟨gb342, 6, none⟩ = some (.bool a0_6) := (zc BK342.out 6).trans rfl
    have hcz7_7 : w3.cell? ⟨gb342, 7, none⟩ = some (.int .i64 a0_7) := (zc BK342.out 7).trans rfl
    have hcz7_8 : w3.cell? ⟨gb342, 8, none⟩ = some (.bool a0_8) := (zc BK342.out 8).trans rfl
    have hcz7_9 : w3.cell? ⟨gb342, 9, none⟩ = some (.string a0_9) := (zc BK342.out 9).trans rfl
    have hcz7_10 : w3.cell? ⟨gb342, 10, none⟩ = some (.int .i64 a0_10) := (zc BK342.out 10).trans rfl
    have hcz7_11 : w3.cell? ⟨gb342, 11, none⟩ = some (.slice A0_11 l0_11.length c0_11) := (zc BK342.out 11).trans rfl
    have hfz7_0 := zf BK342.out 0
    have hfz7_1 := zf BK342.out 1
    have hfz7_2 := zf BK342.out 2
    have hfz7_3 := zf BK342.out 3
    have hfz7_4 := zf BK342.out 4
    have hfz7_5 := zf BK342.out 5
    have hfz7_6 := zf BK342.out 6
    have hfz7_7 := zf BK342.out 7
    have hfz7_8 := zf BK342.out 8
    have hfz7_9 := zf BK342.out 9
    have hfz7_10 := zf BK342.out 10
    have hfz7_11 := zf BK342.out 11
    go_wp2
    go_meet
    case rel => exact ⟨_, (true), (by first | rfl | (simp [*]; done) | (generalize a0_3.toList = z_; cases z_ <;> first | rfl | (simp; done))), H', ⟨by first | omega | exact Nat.le_refl _⟩, ⟨by (with_reducible repeat (first | apply zn | apply zd | apply za)); exact BK342.out⟩, ⟨by repeat (first | (with_reducible first | exact HB.out | apply pa | apply pd | apply pe | refine zs ?_ GE342.out) | exact HB.out)⟩⟩
  rw [if_neg c6] at H
  have c6b0 : decide (10 < a0_0) = false := df_ c6
  clear c6
  by_cases c8 : a0_1 < 0
  · rw [if_pos c8] at H
    have c8b0 : decide (a0_1 < 0) = true := dt_ c8
    clear c8
    have H' := ak_ H
    clear H
    have hcz9_0 : w3.cell? ⟨gb342, 0, none⟩ = some (.int .i64 a0_0) := (zc BK342.out 0).trans rfl
    have hcz9_1 : w3.cell? ⟨gb342, 1, none⟩ = some (.int .i64 a0_1) := (zc BK342.out 1).trans rfl
    have hcz9_2 : w3.cell? ⟨gb342, 2, none⟩ = some (.int .i64 a0_2) := (zc BK342.out 2).trans rfl
    have hcz9_3 : w3.cell? ⟨gb342, 3, none⟩ = some (.string a0_3) := (zc BK342.out 3).trans rfl
    have hcz9_4 : w3.cell? ⟨gb342, 4, none⟩ = some (.int .i64 a0_4) := (zc BK342.out 4).trans rfl
    have hcz9_5 : w3.cell? ⟨gb342, 5, none⟩ = some (.int .i64 a0_5) := (zc BK342.out 5).trans rfl
    have hcz9_6 : w3.cell? ⟨gb342, 6, none⟩ = some (.bool a0_6) := (zc BK342.out 6).trans rfl
    have hcz9_7 : w3.cell? ⟨gb342, 7, none⟩ = some (.int .i64 a0_7) := (zc BK342.out 7).trans rfl
    have hcz9_8 : w3.cell? ⟨gb342, 8, none⟩ = some (.bool a0_8) := (zc BK342.out 8).trans rfl
    have hcz9_9 : w3.cell? ⟨gb342, 9, none⟩ = some (.string a0_9) := (zc BK342.out 9).trans rfl
    have hcz9_10 : w3.cell? ⟨gb342, 10, none⟩ = some (.int .i64 a0_10) := (zc BK342.out 10).trans rfl
    have hcz9_11 : w3.cell? ⟨gb342, 11, none⟩ = some (.slice A0_11 l0_11.length c0_11) := (zc BK342.out 11).trans rfl
    have hfz9_0 := zf BK342.out 0
    have hfz9_1 := zf BK342.out 1
    have hfz9_2 := zf BK342.out 2
    have hfz9_3 := zf BK342.out 3
    have hfz9_4 := zf BK342.out 4
    have hfz9_5 := zf BK342.out 5
    have hfz9_6 := zf BK342.out 6
    have hfz9_7 := zf BK342.out 7
    have hfz9_8 := zf BK342.out 8
    have hfz9_9 := zf BK342.out 9
    have hfz9_10 := zf BK342.out 10
    have hfz9_11 := zf BK342.out 11
    go_wp2
    go_meet
    case rel => exact ⟨_, (true), (by first | rfl | (simp [*]; done) | (generalize a0_3.toList = z_; cases z_ <;> first | rfl | (simp; done))), H', ⟨by first | omega | exact Nat.le_refl _⟩, ⟨by (with_reducible repeat (first | apply zn | apply zd | apply za)); exact BK342.out⟩, ⟨by repeat (first | (with_reducible first | exact HB.out | apply pa | apply pd | apply pe | refine zs ?_ GE342.out) | exact HB.out)⟩⟩
  rw [if_neg c8] at H
  have c8b0 : decide (a0_1 < 0) = false := df_ c8
  clear c8
  by_cases c10 : a0_1 > 1099511627776
  · rw [if_pos c10] at H
    have c10b0 : decide (1099511627776 < a0_1) = true := dt_ c10
    clear c10
    have H' := ak_ H
    clear H
    have hcz11_0 : w3.cell? ⟨gb342, 0, none⟩ = some (.int .i64 a0_0) := (zc BK342.out 0).trans rfl
    have hcz11_1 : w3.cell? ⟨gb342, 1, none⟩ = some (.int .i64 a0_1) := (zc BK342.out 1).trans rfl
    have hcz11_2 : w3.cell? ⟨gb342, 2, none⟩ = some (.int .i64 a0_2) := (zc BK342.out 2).trans rfl
    have hcz11_3 : w3.cell? ⟨gb342, 3, none⟩ = some (.string a0_3) := (zc BK342.out 3).trans rfl
    have hcz11_4 : w3.cell? ⟨gb342, 4, none⟩ = some (.int .i64 a0_4) := (zc BK342.out 4).trans rfl
    have hcz11_5 : w3.cell? ⟨gb342, 5, none⟩ = some (.int .i64 a0_5) := (zc BK342.out 5).trans rfl
    have hcz11_6 : w3.cell? ⟨gb342, 6, none⟩ = some (.bool a0_6) := (zc BK342.out 6).trans rfl
    have hcz11_7 : w3.cell? ⟨gb342, 7, none⟩ = some (.int .i64 a0_7) := (zc BK342.out 7).trans rfl
    have hcz11_8 : w3.cell? ⟨gb342, 8, none⟩ = some (.bool a0_8) := (zc BK342.out 8).trans rfl
    have hcz11_9 : w3.cell? ⟨gb342, 9, none⟩ = some (.string a0_9) := (zc BK342.out 9).trans rfl
    have hcz11_10 : w3.cell? ⟨gb342, 10, none⟩ = some (.int .i64 a0_10) := (zc BK342.out 10).trans rfl
    have hcz11_11 : w3.cell? ⟨gb342, 11, none⟩ = some (.slice A0_11 l0_11.length c0_11) := (zc BK342.out 11).trans rfl
    have hfz11_0 := zf BK342.out 0
    have hfz11_1 := zf BK342.out 1
    have hfz11_2 := zf BK342.out 2
    have hfz11_3 := zf BK342.out 3
    have hfz11_4 := zf BK342.out 4
    have hfz11_5 := zf BK342.out 5
    have hfz11_6 := zf BK342.out 6
    have hfz11_7 := zf BK342.out 7
    have hfz11_8 := zf BK342.out 8
    have hfz11_9 := zf BK342.out 9
    have hfz11_10 := zf BK342.out 10
    have hfz11_11 := zf BK342.out 11
    go_wp2
    go_meet
    case rel => exact ⟨_, (true), (by first | rfl | (simp [*]; done) | (generalize a0_3.toList = z_; cases z_ <;> first | rfl | (simp; done))), H', ⟨by first | omega | exact Nat.le_refl _⟩, ⟨by (with_reducible repeat (first | apply zn | apply zd | apply za)); exact BK342.out⟩, ⟨by repeat (first | (with_reducible first | exact HB.out | apply pa | apply pd | apply pe | refine zs ?_ GE342.out) | exact HB.out)⟩⟩
  rw [if_neg c10] at H
  have c10b0 : decide (1099511627776 < a0_1) = false := df_ c10
  clear c10
  have H' := ak_ H
  clear H
  have hcz12_0 : w3.cell? ⟨gb342, 0, none⟩ = some (.int .i64 a0_0) := (zc BK342.out 0).trans rfl
  have hcz12_1 : w3.cell? ⟨gb342, 1, none⟩ = some (.int .i64 a0_1) := (zc BK342.out 1).trans rfl
  have hcz12_2 : w3.cell? ⟨gb342, 2, none⟩ = some (.int .i64 a0_2) := (zc BK342.out 2).trans rfl
  have hcz12_3 : w3.cell? ⟨gb342, 3, none⟩ = some (.string a0_3) := (zc BK342.out 3).trans rfl
  have hcz12_4 : w3.cell? ⟨gb342, 4, none⟩ = some (.int .i64 a0_4) := (zc BK342.out 4).trans rfl
  have hcz12_5 : w3.cell? ⟨gb342, 5, none⟩ = some (.int .i64 a0_5) := (zc BK342.out 5).trans rfl
  have hcz12_6 : w3.cell? ⟨gb342, 6, none⟩ = some (.bool a0_6) := (zc BK342.out 6).trans rfl
  have hcz12_7 : w3.cell? ⟨gb342, 7, none⟩ = some (.int .i64 a0_7) := (zc BK342.out 7).trans rfl
  have hcz12_8 : w3.cell? ⟨gb342, 8, none⟩ = some (.bool a0_8) := (zc BK342.out 8).trans rfl
  have hcz12_9 : w3.cell? ⟨gb342, 9, none⟩ = some (.string a0_9) := (zc BK342.out 9).trans rfl
  have hcz12_10 : w3.cell? ⟨gb342, 10, none⟩ = some (.int .i64 a0_10) := (zc BK342.out 10).trans rfl
  have hcz12_11 : w3.cell? ⟨gb342, 11, none⟩ = some (.slice A0_11 l0_11.length c0_11) := (zc BK342.out 11).trans rfl
  have hfz12_0 := zf BK342.out 0
  have hfz12_1 := zf BK342.out 1
  have hfz12_2 := zf BK342.out 2
  have hfz12_3 := zf BK342.out 3
  have hfz12_4 := zf BK342.out 4
  have hfz12_5 := zf BK342.out 5
  have hfz12_6 := zf BK342.out 6
  have hfz12_7 := zf BK342.out 7
  have hfz12_8 := zf BK342.out 8
  have hfz12_9 := zf BK342.out 9
  have hfz12_10 := zf BK342.out 10
  have hfz12_11 := zf BK342.out 11
  go_wp2
  go_meet
  case rel => exact ⟨_, (decide (a0_2 < 0)), (by first | rfl | (simp [*]; done) | (generalize a0_3.toList = z_; cases z_ <;> first | rfl | (simp; done))), H', ⟨by first | omega | exact Nat.le_refl _⟩, ⟨by (with_reducible repeat (first | apply zn | apply zd | apply za)); exact BK342.out⟩, ⟨by repeat (first | (with_reducible first | exact HB.out | apply pa | apply pd | apply pe | refine zs ?_ GE342.out) | exact HB.out)⟩⟩
 case rest =>
  clear HC2
  try clear c1
  try clear p2
  try clear c4
  try clear c4b0
  try clear c6
  try clear c6b0
  try clear c8
  try clear c8b0
  try clear c10
  try clear c10b0
  try clear hcz11_0
  try clear hcz11_1
  try clear hcz11_10
  try clear hcz11_11
  try clear hcz11_2
  try clear hcz11_3
  try clear hcz11_4
  try clear hcz11_5
  try clear hcz11_6
  try clear hcz11_7
  try clear hcz11_8
  try clear hcz11_9
  try clear hcz12_0
  try clear hcz12_1
  try clear hcz12_10
  try clear hcz12_11
  try clear hcz12_2
  try clear hcz12_3
  try clear hcz12_4
  try clear hcz12_5
  try clear hcz12_6
  try clear hcz12_7
  try clear hcz12_8
  try clear hcz12_9
  try clear hcz5_0
  try clear hcz5_1
  try clear hcz5_10
  try clear hcz5_11
  try clear hcz5_2
  try clear hcz5_3
  try clear hcz5_4
  try clear hcz5_5
  try clear hcz5_6
  try clear hcz5_7
  try clear hcz5_8
  try clear hcz5_9
  try clear hcz7_0
  try clear hcz7_1
  try clear hcz7_10
  try clear hcz7_11
  try clear hcz7_2
  try clear hcz7_3
  try clear hcz7_4
  try clear hcz7_5
  try clear hcz7_6
  try clear hcz7_7
  try clear hcz7_8
  try clear hcz7_9
  try clear hcz9_0
  try clear hcz9_1
  try clear hcz9_10
  try clear hcz9_11
  try clear hcz9_2
  try clear hcz9_3
  try clear hcz9_4
  try clear hcz9_5
  try clear hcz9_6
  try clear hcz9_7
  try clear hcz9_8
  try clear hcz9_9
  try clear hfz11_0
  try clear hfz11_1
  try clear hfz11_10
  try clear hfz11_11
  try clear hfz11_2
  try clear hfz11_3
  try clear hfz11_4
  try clear hfz11_5
  try clear hfz11_6
  try clear hfz11_7
  try clear hfz11_8
  try clear hfz11_9
  try clear hfz12_0
  try clear hfz12_1
  try clear hfz12_10
  try clear hfz12_11
  try clear hfz12_2
  try clear hfz12_3
  try clear hfz12_4
  try clear hfz12_5
  try clear hfz12_6
  try clear hfz12_7
  try clear hfz12_8
  try clear hfz12_9
  try clear hfz5_0
  try clear hfz5_1
  try clear hfz5_10
  try clear hfz5_11
  try clear hfz5_2
  try clear hfz5_3
  try clear hfz5_4
  try clear hfz5_5
  try clear hfz5_6
  try clear hfz5_7
  try clear hfz5_8
  try clear hfz5_9
  try clear hfz7_0
  try clear hfz7_1
  try clear hfz7_10
  try clear hfz7_11
  try clear hfz7_2
  try clear hfz7_3
  try clear hfz7_4
  try clear hfz7_5
  try clear hfz7_6
  try clear hfz7_7
  try clear hfz7_8
  try clear hfz7_9
  try clear hfz9_0
  try clear hfz9_1
  try clear hfz9_10
  try clear hfz9_11
  try clear hfz9_2
  try clear hfz9_3
  try clear hfz9_4
  try clear hfz9_5
  try clear hfz9_6
  try clear hfz9_7
  try clear hfz9_8
  try clear hfz9_9
  obtain ⟨kq, x28_1, rfl, HA, HJ1, BK342, HB⟩ := hcut
  cases kq with
  | zero => exact absurd HA.out (by simp [uR15_Good.j0])
  | succ kj1 =>
   have H := HA.out
   clear HA
   simp only [uR15_Good.j0] at H
   have HF13 := ak_ H
   clear H
   go_upto_if 28 with (fail)
   have H := HF13.out
   clear HF13
   by_cases c14 : x28_1 = true
   · subst c14
     have H1 : (some false) = some r := by rw [if_pos rfl] at H; exact H
     clear H
     have H := H1
     clear H1
     obtain rfl := Option.some.inj H
     go_wp2
     go_ret
     exact ⟨by first | rfl | simp [*], by repeat (first | (with_reducible first | exact HB.out | apply pa | apply pd | apply pe | refine zs ?_ GE342.out) | exact HB.out)⟩
   replace c14 := Bool.eq_false_iff.mpr c14
   subst c14
   have H1 : (if a0_0 = 0 then (uR15_Good.j1 kj1 false a0_0 a0_1 a0_2 a0_3 a0_4 a0_5 a0_6 a0_7 a0_8 a0_9 a0_10 l0_11) else (if a0_9.toList = ([] : List UInt8) then (if a0_10 = 0 then (uR15_Good.j1 kj1 (decide ((l0_11.length : Int) > 0)) a0_0 a0_1 a0_2 a0_3 a0_4 a0_5 a0_6 a0_7 a0_8 a0_9 a0_10 l0_11) else (uR15_Good.j1 kj1 true a0_0 a0_1 a0_2 a0_3 a0_4 a0_5 a0_6 a0_7 a0_8 a0_9 a0_10 l0_11)) else (uR15_Good.j1 kj1 true a0_0 a0_1 a0_2 a0_3 a0_4 a0_5 a0_6 a0_7 a0_8 a0_9 a0_10 l0_11))) = some r := by rw [if_neg (show ¬ (false = true) by decide)] at H; exact H
   clear H
   have H := H1
   clear H1
   have HC15 := ak_ H
   clear H
   go_upto_region 3 with (fail)
   go_cut [50] (fun v50 wc => ∃ (kq : Nat) (x50_14 : Bool), v50 = .bool x50_14 ∧ Aside0 (uR15_Good.j1 kq x50_14 a0_0 a0_1 a0_2 a0_3 a0_4 a0_5 a0_6 a0_7 a0_8 a0_9 a0_10 l0_11 = some r) ∧ Aside0 (kq ≤ kj1) ∧ Aside0 (wc.heap[gb342]? = some (.cells #[.int .i64 a0_0, .int .i64 a0_1, .int .i64 a0_2, .string a0_3, .int .i64 a0_4, .int .i64 a0_5, .bool a0_6, .int .i64 a0_7, .bool a0_8, .string a0_9, .int .i64 a0_10, (.slice A0_11 l0_11.length c0_11)] 42 (0, 0))) ∧ Aside0 (Below w.heap.size w wc))
   case first =>
    have H := HC15.out
    clear HC15
    by_cases c16 : a0_0 = 0
    · rw [if_pos c16] at H
      have c16b0 : (a0_0 == 0) = true := beq_iff_eq.mpr c16
      have c16b1 : (a0_0 != 0) = false := bne_eq_false_iff_eq.mpr c16
      clear c16
      (first | rw [c16b0] | (simp only [i64_w, i32_w]; rw [c16b0]) | skip)
      have H' := ak_ H
      clear H
      have hcz17_0 : wc.cell? ⟨gb342, 0, none⟩ = some (.int .i64 a0_0) := (zc BK342.out 0).trans rfl
      have hcz17_1 : wc.cell? ⟨gb342, 1, none⟩ = some (.int .i64 a0_1) := (zc BK342.out 1).trans rfl
      have hcz17_2 : wc.cell? ⟨gb342, 2, none⟩ = some (.int .i64 a0_2) := (zc BK342.out 2).trans rfl
      have hcz17_3 : wc.cell? ⟨gb342, 3, none⟩ = some (.string a0_3) := (zc BK342.out 3).trans rfl
      have hcz17_4 : wc.cell? ⟨gb342, 4, none⟩ = some (.int .i64 a0_4) := (zc BK342.out 4).trans rfl
      have hcz17_5 : wc.cell? ⟨gb342, 5, none⟩ = some (.int .i64 a0_5) := (zc BK342.out 5).trans rfl
      have hcz17_6 : wc.cell? ⟨gb342, 6, none⟩ = some (.bool a0_6) := (zc BK342.out 6).trans rfl
      have hcz17_7 : wc.cell? ⟨gb342, 7, none⟩ = some (.int .i64 a0_7) := (zc BK342.out 7).trans rfl
      have hcz17_8 : wc.cell? ⟨gb342, 8, none⟩ = some (.bool a0_8) := (zc BK342.out 8).trans rfl
      have hcz17_9 : wc.cell? ⟨gb342, 9, none⟩ = some (.string a0_9) := (zc BK342.out 9).trans rfl
      have hcz17_10 : wc.cell? ⟨gb342, 10, none⟩ = some (.int .i64 a0_10) := (zc BK342.out 10).trans rfl
      have hcz17_11 : wc.cell? ⟨gb342, 11, none⟩ = some (.slice A0_11 l0_11.length c0_11) := (zc BK342.out 11).trans rfl
      have hfz17_0 := zf BK342.out 0
      have hfz17_1 := zf BK342.out 1
      have hfz17_2 := zf BK342.out 2
      have hfz17_3 := zf BK342.out 3
      have hfz17_4 := zf BK342.out 4
      have hfz17_5 := zf BK342.out 5
      have hfz17_6 := zf BK342.out 6
      have hfz17_7 := zf BK342.out 7
      have hfz17_8 := zf BK342.out 8
      have hfz17_9 := zf BK342.out 9
      have hfz17_10 := zf BK342.out 10
      have hfz17_11 := zf BK342.out 11
      go_wp2
      go_meet
      case rel => exact ⟨_, (false), (by first | rfl | (simp [*]; done) | (generalize a0_3.toList = z_; cases z_ <;> first | rfl | (simp; done))), H', ⟨by have := HJ1.out; first | omega | exact Nat.le_refl _⟩, ⟨by (with_reducible repeat (first | apply zn | apply zd | apply za)); exact BK342.out⟩, ⟨by repeat (first | (with_reducible first | exact HB.out | apply pa | apply pd | apply pe | refine zs ?_ GE342.out) | exact HB.out)⟩⟩
    rw [if_neg c16] at H
    have c16b0 : (a0_0 == 0) = false := beq_eq_false_iff_ne.mpr c16
    have c16b1 : (a0_0 != 0) = true := bne_iff_ne.mpr c16
    (first | rw [c16b0] | (simp only [i64_w, i32_w]; rw [c16b0]) | skip)
    by_cases c18 : a0_9.toList = ([] : List UInt8)
    · rw [if_pos c18] at H
      have c18b0 : (a0_9.toList == ([] : List UInt8)) = true := beq_iff_eq.mpr c18
      have c18b1 : (a0_9.toList != ([] : List UInt8)) = false := bne_eq_false_iff_eq.mpr c18
      clear c18
      by_cases c19 : a0_10 = 0
      · rw [if_pos c19] at H
        have c19b0 : (a0_10 == 0) = true := beq_iff_eq.mpr c19
        have c19b1 : (a0_10 != 0) = false := bne_eq_false_iff_eq.mpr c19
        clear c19
        have H' := ak_ H
        clear H
        have hcz20_0 : wc.cell? ⟨gb342, 0, none⟩ = some (.int .i64 a0_0) := (zc BK342.out 0).trans rfl
        have hcz20_1 : wc.cell? ⟨gb342, 1, none⟩ = some (.int .i64 a0_1) := (zc BK342.out 1).trans rfl
        have hcz20_2 : wc.cell? ⟨gb342, 2, none⟩ = some (.int .i64 a0_2) := (zc BK342.out 2).trans rfl
        have hcz20_3 : wc.cell? ⟨gb342, 3, none⟩ = some (.string a0_3) := (zc BK342.out 3).trans rfl
        have hcz20_4 : wc.cell? ⟨gb342, 4, none⟩ = some (.int .i64 a0_4) := (zc BK342.out 4).trans rfl
        have hcz20_5 : wc.cell? ⟨gb342, 5, none⟩ = some (.int .i64 a0_5) := (zc BK342.out 5).trans rfl
        have hcz20_6 : wc.cell? ⟨gb342, 6, none⟩ = some (.bool a0_6) := (zc BK342.out 6).trans rfl
        have hcz20_7 : wc.cell? ⟨gb342, 7, none⟩ = some (.int .i64 a0_7) := (zc BK342.out 7).trans rfl
        have hcz20_8 : wc.cell? ⟨gb342, 8, none⟩ = some (.bool a0_8) := (zc BK342.out 8).trans rfl
        have hcz20_9 : wc.cell? ⟨gb342, 9, none⟩ = some (.string a0_9) := (zc BK342.out 9).trans rfl
        have hcz20_10 : wc.cell? ⟨gb342, 10, none⟩ = some (.int .i64 a0_10) := (zc BK342.out 10).trans rfl
        have hcz20_11 : wc.cell? ⟨gb342, 11, none⟩ = some (.slice A0_11 l0_11.length c0_11) := (zc BK342.out 11).trans rfl
        have hfz20_0 := zf BK342.out 0
        have hfz20_1 := zf BK342.out 1
        have hfz20_2 := zf BK342.out 2
        have hfz20_3 := zf BK342.out 3
        have hfz20_4 := zf BK342.out 4
        have hfz20_5 := zf BK342.out 5
        have hfz20_6 := zf BK342.out 6
        have hfz20_7 := zf BK342.out 7
        have hfz20_8 := zf BK342.out 8
        have hfz20_9 := zf BK342.out 9
        have hfz20_10 := zf BK342.out 10
        have hfz20_11 := zf BK342.out 11
        go_wp2
        go_meet
        case rel => exact ⟨_, (decide ((l0_11.length : Int) > 0)), (by first | rfl | (simp [*]; done) | (generalize a0_3.toList = z_; cases z_ <;> first | rfl | (simp; done))), H', ⟨by have := HJ1.out; first | omega | exact Nat.le_refl _⟩, ⟨by (with_reducible repeat (first | apply zn | apply zd | apply za)); exact BK342.out⟩, ⟨by repeat (first | (with_reducible first | exact HB.out | apply pa | apply pd | apply pe | refine zs ?_ GE342.out) | exact HB.out)⟩⟩
      rw [if_neg c19] at H
      have c19b0 : (a0_10 == 0) = false := beq_eq_false_iff_ne.mpr c19
      have c19b1 : (a0_10 != 0) = true := bne_iff_ne.mpr c19
      have H' := ak_ H
      clear H
      have hcz21_0 : wc.cell? ⟨gb342, 0, none⟩ = some (.int .i64 a0_0) := (zc BK342.out 0).trans rfl
      have hcz21_1 : wc.cell? ⟨gb342, 1, none⟩ = some (.int .i64 a0_1) := (zc BK342.out 1).trans rfl
      have hcz21_2 : wc.cell? ⟨gb342, 2, none⟩ = some (.int .i64 a0_2) := (zc BK342.out 2).trans rfl
      have hcz21_3 : wc.cell? ⟨gb342, 3, none⟩ = some (.string a0_3) := (zc BK342.out 3).trans rfl
      have hcz21_4 : wc.cell? ⟨gb342, 4, none⟩ = some (.int .i64 a0_4) := (zc BK342.out 4).trans rfl
      have hcz21_5 : wc.cell? ⟨gb342, 5, none⟩ = some (.int .i64 a0_5) := (zc BK342.out 5).trans rfl
      have hcz21_6 : wc.cell? ⟨gb342, 6, none⟩ = some (.bool a0_6) := (zc BK342.out 6).trans rfl
      have hcz21_7 : wc.cell? ⟨gb342, 7, none⟩ = some (.int .i64 a0_7) := (zc BK342.out 7).trans rfl
      have hcz21_8 : wc.cell? ⟨gb342, 8, none⟩ = some (.bool a0_8) := (zc BK342.out 8).trans rfl
      have hcz21_9 : wc.cell? ⟨gb342, 9, none⟩ = some (.string a0_9) := (zc BK342.out 9).trans rfl
      have hcz21_10 : wc.cell? ⟨gb342, 10, none⟩ = some (.int .i64 a0_10) := (zc BK342.out 10).trans rfl
      have hcz21_11 : wc.cell? ⟨gb342, 11, none⟩ = some (.slice A0_11 l0_11.length c0_11) := (zc BK342.out 11).trans rfl
      have hfz21_0 := zf BK342.out 0
      have hfz21_1 := zf BK342.out 1
      have hfz21_2 := zf BK342.out 2
      have hfz21_3 := zf BK342.out 3
      have hfz21_4 := zf BK342.out 4
      have hfz21_5 := zf BK342.out 5
      have hfz21_6 := zf BK342.out 6
      have hfz21_7 := zf BK342.out 7
      have hfz21_8 := zf BK342.out 8
      have hfz21_9 := zf BK342.out 9
      have hfz21_10 := zf BK342.out 10
      have hfz21_11 := zf BK342.out 11
      go_wp2
      go_meet
      case rel => exact ⟨_, (true), (by first | rfl | (simp [*]; done) | (generalize a0_3.toList = z_; cases z_ <;> first | rfl | (simp; done))), H', ⟨by have := HJ1.out; first | omega | exact Nat.le_refl _⟩, ⟨by (with_reducible repeat (first | apply zn | apply zd | apply za)); exact BK342.out⟩, ⟨by repeat (first | (with_reducible first | exact HB.out | apply pa | apply pd | apply pe | refine zs ?_ GE342.out) | exact HB.out)⟩⟩
    rw [if_neg c18] at H
    have c18b0 : (a0_9.toList == ([] : List UInt8)) = false := beq_eq_false_iff_ne.mpr c18
    have c18b1 : (a0_9.toList != ([] : List UInt8)) = true := bne_iff_ne.mpr c18
    have H' := ak_ H
    clear H
    have hcz22_0 : wc.cell? ⟨gb342, 0, none⟩ = some (.int .i64 a0_0) := (zc BK342.out 0).trans rfl
    have hcz22_1 : wc.cell? ⟨gb342, 1, none⟩ = some (.int .i64 a0_1) := (zc BK342.out 1).trans rfl
    have hcz22_2 : wc.cell? ⟨gb342, 2, none⟩ = some (.int .i64 a0_2) := (zc BK342.out 2).trans rfl
    have hcz22_3 : wc.cell? ⟨gb342, 3, none⟩ = some (.string a0_3) := (zc BK342.out 3).trans rfl
    have hcz22_4 : wc.cell? ⟨gb342, 4, none⟩ = some (.int .i64 a0_4) := (zc BK342.out 4).trans rfl
    have hcz22_5 : wc.cell? ⟨gb342, 5, none⟩ = some (.int .i64 a0_5) := (zc BK342.out 5).trans rfl
    have hcz22_6 : wc.cell? ⟨gb342, 6, none⟩ = some (.bool a0_6) := (zc BK342.out 6).trans rfl
    have hcz22_7 : wc.cell? ⟨gb342, 7, none⟩ = some (.int .i64 a0_7) := (zc BK342.out 7).trans rfl
    have hcz22_8 : wc.cell? ⟨gb342, 8, none⟩ = some (.bool a0_8) := (zc BK342.out 8).trans rfl
    have hcz22_9 : wc.cell? ⟨gb342, 9, none⟩ = some (.string a0_9) := (zc BK342.out 9).trans rfl
    have hcz22_10 : wc.cell? ⟨gb342, 10, none⟩ = some (.int .i64 a0_10) := (zc BK342.out 10).trans rfl
    have hcz22_11 : wc.cell? ⟨gb342, 11, none⟩ = some (.slice A0_11 l0_11.length c0_11) := (zc BK342.out 11).trans rfl
    have hfz22_0 := zf BK342.out 0
    have hfz22_1 := zf BK342.out 1
    have hfz22_2 := zf BK342.out 2
    have hfz22_3 := zf BK342.out 3
    have hfz22_4 := zf BK342.out 4
    have hfz22_5 := zf BK342.out 5
    have hfz22_6 := zf BK342.out 6
    have hfz22_7 := zf BK342.out 7
    have hfz22_8 := zf BK342.out 8
    have hfz22_9 := zf BK342.out 9
    have hfz22_10 := zf BK342.out 10
    have hfz22_11 := zf BK342.out 11
    go_wp2
    go_meet
    case rel => exact ⟨_, (true), (by first | rfl | (simp [*]; done) | (generalize a0_3.toList = z_; cases z_ <;> first | rfl | (simp; done))), H', ⟨by have := HJ1.out; first | omega | exact Nat.le_refl _⟩, ⟨by (with_reducible repeat (first | apply zn | apply zd | apply za)); exact BK342.out⟩, ⟨by repeat (first | (with_reducible first | exact HB.out | apply pa | apply pd | apply pe | refine zs ?_ GE342.out) | exact HB.out)⟩⟩
   case rest =>
    clear HC15
    try clear c1
    try clear p2
    try clear c4
    try clear c4b0
    try clear c6
    try clear c6b0
    try clear c8
    try clear c8b0
    try clear c10
    try clear c10b0
    try clear c14
    try clear c16
    try clear c16b0
    try clear c16b1
    try clear c18
    try clear c18b0
    try clear c18b1
    try clear c19
    try clear c19b0
    try clear c19b1
    try clear hcz11_0
    try clear hcz11_1
    try clear hcz11_10
    try clear hcz11_11
    try clear hcz11_2
    try clear hcz11_3
    try clear hcz11_4
    try clear hcz11_5
    try clear hcz11_6
    try clear hcz11_7
    try clear hcz11_8
    try clear hcz11_9
    try clear hcz12_0
    try clear hcz12_1
    try clear hcz12_10
    try clear hcz12_11
    try clear hcz12_2
    try clear hcz12_3
    try clear hcz12_4
    try clear hcz12_5
    try clear hcz12_6
    try clear hcz12_7
    try clear hcz12_8
    try clear hcz12_9
    try clear hcz17_0
    try clear hcz17_1
    try clear hcz17_10
    try clear hcz17_11
    try clear hcz17_2
    try clear hcz17_3
    try clear hcz17_4
    try clear hcz17_5
    try clear hcz17_6
    try clear hcz17_7
    try clear hcz17_8
    try clear hcz17_9
    try clear hcz20_0
    try clear hcz20_1
    try clear hcz20_10
    try clear hcz20_11
    try clear hcz20_2
    try clear hcz20_3
    try clear hcz20_4
    try clear hcz20_5
    try clear hcz20_6
    try clear hcz20_7
    try clear hcz20_8
    try clear hcz20_9
    try clear hcz21_0
    try clear hcz21_1
    try clear hcz21_10
    try clear hcz21_11
    try clear hcz21_2
    try clear hcz21_3
    try clear hcz21_4
    try clear hcz21_5
    try clear hcz21_6
    try clear hcz21_7
    try clear hcz21_8
    try clear hcz21_9
    try clear hcz22_0
    try clear hcz22_1
    try clear hcz22_10
    try clear hcz22_11
    try clear hcz22_2
    try clear hcz22_3
    try clear hcz22_4
    try clear hcz22_5
    try clear hcz22_6
    try clear hcz22_7
    try clear hcz22_8
    try clear hcz22_9
    try clear hcz5_0
    try clear hcz5_1
    try clear hcz5_10
    try clear hcz5_11
    try clear hcz5_2
    try clear hcz5_3
    try clear hcz5_4
    try clear hcz5_5
    try clear hcz5_6
    try clear hcz5_7
    try clear hcz5_8
    try clear hcz5_9
    try clear hcz7_0
    try clear hcz7_1
    try clear hcz7_10
    try clear hcz7_11
    try clear hcz7_2
    try clear hcz7_3
    try clear hcz7_4
    try clear hcz7_5
    try clear hcz7_6
    try clear hcz7_7
    try clear hcz7_8
    try clear hcz7_9
    try clear hcz9_0
    try clear hcz9_1
    try clear hcz9_10
    try clear hcz9_11
    try clear hcz9_2
    try clear hcz9_3
    try clear hcz9_4
    try clear hcz9_5
    try clear hcz9_6
    try clear hcz9_7
    try clear hcz9_8
    try clear hcz9_9
    try clear hfz11_0
    try clear hfz11_1
    try clear hfz11_10
    try clear hfz11_11
    try clear hfz11_2
    try clear hfz11_3
    try clear hfz11_4
    try clear hfz11_5
    try clear hfz11_6
    try clear hfz11_7
    try clear hfz11_8
    try clear hfz11_9
    try clear hfz12_0
    try clear hfz12_1
    try clear hfz12_10
    try clear hfz12_11
    try clear hfz12_2
    try clear hfz12_3
    try clear hfz12_4
    try clear hfz12_5
    try clear hfz12_6
    try clear hfz12_7
    try clear hfz12_8
    try clear hfz12_9
    try clear hfz17_0
    try clear hfz17_1
    try clear hfz17_10
    try clear hfz17_11
    try clear hfz17_2
    try clear hfz17_3
    try clear hfz17_4
    try clear hfz17_5
    try clear hfz17_6
    try clear hfz17_7
    try clear hfz17_8
    try clear hfz17_9
    try clear hfz20_0
    try clear hfz20_1
    try clear hfz20_10
    try clear hfz20_11
    try clear hfz20_2
    try clear hfz20_3
    try clear hfz20_4
    try clear hfz20_5
    try clear hfz20_6
    try clear hfz20_7
    try clear hfz20_8
    try clear hfz20_9
    try clear hfz21_0
    try clear hfz21_1
    try clear hfz21_10
    try clear hfz21_11
    try clear hfz21_2
    try clear hfz21_3
    try clear hfz21_4
    try clear hfz21_5
    try clear hfz21_6
    try clear hfz21_7
    try clear hfz21_8
    try clear hfz21_9
    try clear hfz22_0
    try clear hfz22_1
    try clear hfz22_10
    try clear hfz22_11
    try clear hfz22_2
    try clear hfz22_3
    try clear hfz22_4
    try clear hfz22_5
    try clear hfz22_6
    try clear hfz22_7
    try clear hfz22_8
    try clear hfz22_9
    try clear hfz5_0
    try clear hfz5_1
    try clear hfz5_10
    try clear hfz5_11
    try clear hfz5_2
    try clear hfz5_3
    try clear hfz5_4
    try clear hfz5_5
    try clear hfz5_6
    try clear hfz5_7
    try clear hfz5_8
    try clear hfz5_9
    try clear hfz7_0
    try clear hfz7_1
    try clear hfz7_10
    try clear hfz7_11
    try clear hfz7_2
    try clear hfz7_3
    try clear hfz7_4
    try clear hfz7_5
    try clear hfz7_6
    try clear hfz7_7
    try clear hfz7_8
    try clear hfz7_9
    try clear hfz9_0
    try clear hfz9_1
    try clear hfz9_10
    try clear hfz9_11
    try clear hfz9_2
    try clear hfz9_3
    try clear hfz9_4
    try clear hfz9_5
    try clear hfz9_6
    try clear hfz9_7
    try clear hfz9_8
    try clear hfz9_9
    try clear p2
    obtain ⟨kq, x50_14, rfl, HA, HJ14, BK342, HB⟩ := hcut
    cases kq with
    | zero => exact absurd HA.out (by simp [uR15_Good.j1])
    | succ kj14 =>
     have H := HA.out
     clear HA
     simp only [uR15_Good.j1] at H
     have HF23 := ak_ H
     clear H
     go_upto_if 50 with (fail)
     have H := HF23.out
     clear HF23
     by_cases c24 : x50_14 = true
     · subst c24
       have H1 : (some false) = some r := by rw [if_pos rfl] at H; exact H
       clear H
       have H := H1
       clear H1
       obtain rfl := Option.some.inj H
       go_wp2
       go_ret
       exact ⟨by first | rfl | simp [*], by repeat (first | (with_reducible first | exact HB.out | apply pa | apply pd | apply pe | refine zs ?_ GE342.out) | exact HB.out)⟩
     replace c24 := Bool.eq_false_iff.mpr c24
     subst c24
     have H1 : (if a0_0 = 1 then (uR15_Good.j2 kj14 false a0_0 a0_1 a0_2 a0_3 a0_4 a0_5 a0_6 a0_7 a0_8 a0_9 a0_10 l0_11) else (uR15_Good.j2 kj14 (a0_3.toList != ([] : List UInt8)) a0_0 a0_1 a0_2 a0_3 a0_4 a0_5 a0_6 a0_7 a0_8 a0_9 a0_10 l0_11)) = some r := by rw [if_neg (show ¬ (false = true) by decide)] at H; exact H
     clear H
     have H := H1
     clear H1
     have HC25 := ak_ H
     clear H
     go_upto_region 5 with (fail)
     go_cut [58] (fun v58 wc => ∃ (kq : Nat) (x58_24 : Bool), v58 = .bool x58_24 ∧ Aside0 (uR15_Good.j2 kq x58_24 a0_0 a0_1 a0_2 a0_3 a0_4 a0_5 a0_6 a0_7 a0_8 a0_9 a0_10 l0_11 = some r) ∧ Aside0 (kq ≤ kj14) ∧ Aside0 (wc.heap[gb342]? = some (.cells #[.int .i64 a0_0, .int .i64 a0_1, .int .i64 a0_2, .string a0_3, .int .i64 a0_4, .int .i64 a0_5, .bool a0_6, .int .i64 a0_7, .bool a0_8, .string a0_9, .int .i64 a0_10, (.slice A0_11 l0_11.length c0_11)] 42 (0, 0))) ∧ Aside0 (Below w.heap.size w wc))
     case first =>
      have H := HC25.out
      clear HC25
      by_cases c26 : a0_0 = 1
      · rw [if_pos c26] at H
        have c26b0 : (a0_0 == 1) = true := beq_iff_eq.mpr c26
        have c26b1 : (a0_0 != 1) = false := bne_eq_false_iff_eq.mpr c26
        clear c26
        (first | rw [c26b0] | (simp only [i64_w, i32_w]; rw [c26b0]) | skip)
        have H' := ak_ H
        clear H
        have hcz27_0 : wc.cell? ⟨gb342, 0, none⟩ = some (.int .i64 a0_0) := (zc BK342.out 0).trans rfl
        have hcz27_1 : wc.cell? ⟨gb342, 1, none⟩ = some (.int .i64 a0_1) := (zc BK342.out 1).trans rfl
        have hcz27_2 : wc.cell? ⟨gb342, 2, none⟩ = some (.int .i64 a0_2) := (zc BK342.out 2).trans rfl
        have hcz27_3 : wc.cell? ⟨gb342, 3, none⟩ = some (.string a0_3) := (zc BK342.out 3).trans rfl
        have hcz27_4 : wc.cell? ⟨gb342, 4, none⟩ = some (.int .i64 a0_4) := (zc BK342.out 4).trans rfl
        have hcz27_5 : wc.cell? ⟨gb342, 5, none⟩ = some (.int .i64 a0_5) := (zc BK342.out 5).trans rfl
        have hcz27_6 : wc.cell? ⟨gb342, 6, none⟩ = some (.bool a0_6) := (zc BK342.out 6).trans rfl
        have hcz27_7 : wc.cell? ⟨gb342, 7, none⟩ = some (.int .i64 a0_7) := (zc BK342.out 7).trans rfl
        have hcz27_8 : wc.cell? ⟨gb342, 8, none⟩ = some (.bool a0_8) := (zc BK342.out 8).trans rfl
        have hcz27_9 : wc.cell? ⟨gb342, 9, none⟩ = some (.string a0_9) := (zc BK342.out 9).trans rfl
        have hcz27_10 : wc.cell? ⟨gb342, 10, none⟩ = some (.int .i64 a0_10) := (zc BK342.out 10).trans rfl
        have hcz27_11 : wc.cell? ⟨gb342, 11, none⟩ = some (.slice A0_11 l0_11.length c0_11) := (zc BK342.out 11).trans rfl
        have hfz27_0 := zf BK342.out 0
        have hfz27_1 := zf BK342.out 1
        have hfz27_2 := zf BK342.out 2
        have hfz27_3 := zf BK342.out 3
        have hfz27_4 := zf BK342.out 4
        have hfz27_5 := zf BK342.out 5
        have hfz27_6 := zf BK342.out 6
        have hfz27_7 := zf BK342.out 7
        have hfz27_8 := zf BK342.out 8
        have hfz27_9 := zf BK342.out 9
        have hfz27_10 := zf BK342.out 10
        have hfz27_11 := zf BK342.out 11
        go_wp2
        go_meet
        case rel => exact ⟨_, (false), (by first | rfl | (simp [*]; done) | (generalize a0_3.toList = z_; cases z_ <;> first | rfl | (simp; done))), H', ⟨by have := HJ1.out; have := HJ14.out; first | omega | exact Nat.le_refl _⟩, ⟨by (with_reducible repeat (first | apply zn | apply zd | apply za)); exact BK342.out⟩, ⟨by repeat (first | (with_reducible first | exact HB.out | apply pa | apply pd | apply pe | refine zs ?_ GE342.out) | exact HB.out)⟩⟩
      rw [if_neg c26] at H
      have c26b0 : (a0_0 == 1) = false := beq_eq_false_iff_ne.mpr c26
      have c26b1 : (a0_0 != 1) = true := bne_iff_ne.mpr c26
      (first | rw [c26b0] | (simp only [i64_w, i32_w]; rw [c26b0]) | skip)
      have H' := ak_ H
      clear H
      have hcz28_0 : wc.cell? ⟨gb342, 0, none⟩ = some (.int .i64 a0_0) := (zc BK342.out 0).trans rfl
      have hcz28_1 : wc.cell? ⟨gb342, 1, none⟩ = some (.int .i64 a0_1) := (zc BK342.out 1).trans rfl
      have hcz28_2 : wc.cell? ⟨gb342, 2, none⟩ = some (.int .i64 a0_2) := (zc BK342.out 2).trans rfl
      have hcz28_3 : wc.cell? ⟨gb342, 3, none⟩ = some (.string a0_3) := (zc BK342.out 3).trans rfl
      have hcz28_4 : wc.cell? ⟨gb342, 4, none⟩ = some (.int .i64 a0_4) := (zc BK342.out 4).trans rfl
      have hcz28_5 : wc.cell? ⟨gb342, 5, none⟩ = some (.int .i64 a0_5) := (zc BK342.out 5).trans rfl
      have hcz28_6 : wc.cell? ⟨gb342, 6, none⟩ = some (.bool a0_6) := (zc BK342.out 6).trans rfl
      have hcz28_7 : wc.cell? ⟨gb342, 7, none⟩ = some (.int .i64 a0_7) := (zc BK342.out 7).trans rfl
      have hcz28_8 : wc.cell? ⟨gb342, 8, none⟩ = some (.bool a0_8) := (zc BK342.out 8).trans rfl
      have hcz28_9 : wc.cell? ⟨gb342, 9, none⟩ = some (.string a0_9) := (zc BK342.out 9).trans rfl
      have hcz28_10 : wc.cell? ⟨gb342, 10, none⟩ = some (.int .i64 a0_10) := (zc BK342.out 10).trans rfl
      have hcz28_11 : wc.cell? ⟨gb342, 11, none⟩ = some (.slice A0_11 l0_11.length c0_11) := (zc BK342.out 11).trans rfl
      have hfz28_0 := zf BK342.out 0
      have hfz28_1 := zf BK342.out 1
      have hfz28_2 := zf BK342.out 2
      have hfz28_3 := zf BK342.out 3
      have hfz28_4 := zf BK342.out 4
      have hfz28_5 := zf BK342.out 5
      have hfz28_6 := zf BK342.out 6
      have hfz28_7 := zf BK342.out 7
      have hfz28_8 := zf BK342.out 8
      have hfz28_9 := zf BK342.out 9
      have hfz28_10 := zf BK342.out 10
      have hfz28_11 := zf BK342.out 11
      go_wp2
      go_meet
      case rel => exact ⟨_, ((a0_3.toList != ([] : List UInt8))), (by first | rfl | (simp [*]; done) | (generalize a0_3.toList = z_; cases z_ <;> first | rfl | (simp; done))), H', ⟨by have := HJ1.out; have := HJ14.out; first | omega | exact Nat.le_refl _⟩, ⟨by (with_reducible repeat (first | apply zn | apply zd | apply za)); exact BK342.out⟩, ⟨by repeat (first | (with_reducible first | exact HB.out | apply pa | apply pd | apply pe | refine zs ?_ GE342.out) | exact HB.out)⟩⟩
     case rest =>
      clear HC25
      try clear c1
      try clear c2
      try clear p2
      try clear c4
      try clear c4b0
      try clear c6
      try clear c6b0
      try clear c8
      try clear c8b0
      try clear c10
      try clear c10b0
      try clear c14
      try clear c16
      try clear c16b0
      try clear c16b1
      try clear c18
      try clear c18b0
      try clear c18b1
      try clear c19
      try clear c19b0
      try clear c19b1
      try clear c24
      try clear c26
      try clear c26b0
      try clear c26b1
      try clear hcz11_0
      try clear hcz11_1
      try clear hcz11_10
      try clear hcz11_11
      try clear hcz11_2
      try clear hcz11_3
      try clear hcz11_4
      try clear hcz11_5
      try clear hcz11_6
      try clear hcz11_7
      try clear hcz11_8
      try clear hcz11_9
      try clear hcz12_0
      try clear hcz12_1
      try clear hcz12_10
      try clear hcz12_11
      try clear hcz12_2
      try clear hcz12_3
      try clear hcz12_4
      try clear hcz12_5
      try clear hcz12_6
      try clear hcz12_7
      try clear hcz12_8
      try clear hcz12_9
      try clear hcz17_0
      try clear hcz17_1
      try clear hcz17_10
      try clear hcz17_11
      try clear hcz17_2
      try clear hcz17_3
      try clear hcz17_4
      try clear hcz17_5
      try clear hcz17_6
      try clear hcz17_7
      try clear hcz17_8
      try clear hcz17_9
      try clear hcz20_0
      try clear hcz20_1
      try clear hcz20_10
      try clear hcz20_11
      try clear hcz20_2
      try clear hcz20_3
      try clear hcz20_4
      try clear hcz20_5
      try clear hcz20_6
      try clear hcz20_7
      try clear hcz20_8
      try clear hcz20_9
      try clear hcz21_0
      try clear hcz21_1
      try clear hcz21_10
      try clear hcz21_11
      try clear hcz21_2
      try clear hcz21_3
      try clear hcz21_4
      try clear hcz21_5
      try clear hcz21_6
      try clear hcz21_7
      try clear hcz21_8
      try clear hcz21_9
      try clear hcz22_0
      try clear hcz22_1
      try clear hcz22_10
      try clear hcz22_11
      try clear hcz22_2
      try clear hcz22_3
      try clear hcz22_4
      try clear hcz22_5
      try clear hcz22_6
      try clear hcz22_7
      try clear hcz22_8
      try clear hcz22_9
      try clear hcz27_0
      try clear hcz27_1
      try clear hcz27_10
      try clear hcz27_11
      try clear hcz27_2
      try clear hcz27_3
      try clear hcz27_4
      try clear hcz27_5
      try clear hcz27_6
      try clear hcz27_7
      try clear hcz27_8
      try clear hcz27_9
      try clear hcz28_0
      try clear hcz28_1
      try clear hcz28_10
      try clear hcz28_11
      try clear hcz28_2
      try clear hcz28_3
      try clear hcz28_4
      try clear hcz28_5
      try clear hcz28_6
      try clear hcz28_7
      try clear hcz28_8
      try clear hcz28_9
      try clear hcz5_0
      try clear hcz5_1
      try clear hcz5_10
      try clear hcz5_11
      try clear hcz5_2
      try clear hcz5_3
      try clear hcz5_4
      try clear hcz5_5
      try clear hcz5_6
      try clear hcz5_7
      try clear hcz5_8
      try clear hcz5_9
      try clear hcz7_0
      try clear hcz7_1
      try clear hcz7_10
      try clear hcz7_11
      try clear hcz7_2
      try clear hcz7_3
      try clear hcz7_4
      try clear hcz7_5
      try clear hcz7_6
      try clear hcz7_7
      try clear hcz7_8
      try clear hcz7_9
      try clear hcz9_0
      try clear hcz9_1
      try clear hcz9_10
      try clear hcz9_11
      try clear hcz9_2
      try clear hcz9_3
      try clear hcz9_4
      try clear hcz9_5
      try clear hcz9_6
      try clear hcz9_7
      try clear hcz9_8
      try clear hcz9_9
      try clear hfz11_0
      try clear hfz11_1
      try clear hfz11_10
      try clear hfz11_11
      try clear hfz11_2
      try clear hfz11_3
      try clear hfz11_4
      try clear hfz11_5
      try clear hfz11_6
      try clear hfz11_7
      try clear hfz11_8
      try clear hfz11_9
      try clear hfz12_0
      try clear hfz12_1
      try clear hfz12_10
      try clear hfz12_11
      try clear hfz12_2
      try clear hfz12_3
      try clear hfz12_4
      try clear hfz12_5
      try clear hfz12_6
      try clear hfz12_7
      try clear hfz12_8
      try clear hfz12_9
      try clear hfz17_0
      try clear hfz17_1
      try clear hfz17_10
      try clear hfz17_11
      try clear hfz17_2
      try clear hfz17_3
      try clear hfz17_4
      try clear hfz17_5
      try clear hfz17_6
      try clear hfz17_7
      try clear hfz17_8
      try clear hfz17_9
      try clear hfz20_0
      try clear hfz20_1
      try clear hfz20_10
      try clear hfz20_11
      try clear hfz20_2
      try clear hfz20_3
      try clear hfz20_4
      try clear hfz20_5
      try clear hfz20_6
      try clear hfz20_7
      try clear hfz20_8
      try clear hfz20_9
      try clear hfz21_0
      try clear hfz21_1
      try clear hfz21_10
      try clear hfz21_11
      try clear hfz21_2
      try clear hfz21_3
      try clear hfz21_4
      try clear hfz21_5
      try clear hfz21_6
      try clear hfz21_7
      try clear hfz21_8
      try clear hfz21_9
      try clear hfz22_0
      try clear hfz22_1
      try clear hfz22_10
      try clear hfz22_11
      try clear hfz22_2
      try clear hfz22_3
      try clear hfz22_4
      try clear hfz22_5
      try clear hfz22_6
      try clear hfz22_7
      try clear hfz22_8
      try clear hfz22_9
      try clear hfz27_0
      try clear hfz27_1
      try clear hfz27_10
      try clear hfz27_11
      try clear hfz27_2
      try clear hfz27_3
      try clear hfz27_4
      try clear hfz27_5
      try clear hfz27_6
      try clear hfz27_7
      try clear hfz27_8
      try clear hfz27_9
      try clear hfz28_0
      try clear hfz28_1
      try clear hfz28_10
      try clear hfz28_11
      try clear hfz28_2
      try clear hfz28_3
      try clear hfz28_4
      try clear hfz28_5
      try clear hfz28_6
      try clear hfz28_7
      try clear hfz28_8
      try clear hfz28_9
      try clear hfz5_0
      try clear hfz5_1
      try clear hfz5_10
      try clear hfz5_11
      try clear hfz5_2
      try clear hfz5_3
      try clear hfz5_4
      try clear hfz5_5
      try clear hfz5_6
      try clear hfz5_7
      try clear hfz5_8
      try clear hfz5_9
      try clear hfz7_0
      try clear hfz7_1
      try clear hfz7_10
      try clear hfz7_11
      try clear hfz7_2
      try clear hfz7_3
      try clear hfz7_4
      try clear hfz7_5
      try clear hfz7_6
      try clear hfz7_7
      try clear hfz7_8
      try clear hfz7_9
      try clear hfz9_0
      try clear hfz9_1
      try clear hfz9_10
      try clear hfz9_11
      try clear hfz9_2
      try clear hfz9_3
      try clear hfz9_4
      try clear hfz9_5
      try clear hfz9_6
      try clear hfz9_7
      try clear hfz9_8
      try clear hfz9_9
      try clear p2
      obtain ⟨kq, x58_24, rfl, HA, HJ24, BK342, HB⟩ := hcut
      cases kq with
      | zero => exact absurd HA.out (by simp [uR15_Good.j2])
      | succ kj24 =>
       have H := HA.out
       clear HA
       simp only [uR15_Good.j2] at H
       have HF29 := ak_ H
       clear H
       go_upto_if 58 with (fail)
       have H := HF29.out
       clear HF29
       by_cases c30 : x58_24 = true
       · subst c30
         have H1 : (some false) = some r := by rw [if_pos rfl] at H; exact H
         clear H
         have H := H1
         clear H1
         obtain rfl := Option.some.inj H
         go_wp2
         go_ret
         exact ⟨by first | rfl | simp [*], by repeat (first | (with_reducible first | exact HB.out | apply pa | apply pd | apply pe | refine zs ?_ GE342.out) | exact HB.out)⟩
       replace c30 := Bool.eq_false_iff.mpr c30
       subst c30
       have H1 : (if a0_0 = 3 then (uR15_Good.j3 kj24 false a0_0 a0_1 a0_2 a0_3 a0_4 a0_5 a0_6 a0_7 a0_8 a0_9 a0_10 l0_11) else (uR15_Good.j3 kj24 (!(a0_4 == 0) || (!(a0_5 == 0) || (a0_6 || (!(a0_7 == 0) || (a0_8))))) a0_0 a0_1 a0_2 a0_3 a0_4 a0_5 a0_6 a0_7 a0_8 a0_9 a0_10 l0_11)) = some r := by rw [if_neg (show ¬ (false = true) by decide)] at H; exact H
       clear H
       have H := H1
       clear H1
       have HC31 := ak_ H
       clear H
       go_upto_region 8 with (first | ((with_reducible refine gate_dst (N := 3) rfl ?_); (try (refine gate_guard (by rfl) ?_; dsimp only)); refine box_event ?hg (N := 3) ?hd (cs := #[.int .i64 0, .int .i64 0, .bool false, .int .i64 0, .bool false]) (t := 40) ?hr ?_; (case hd | hg => rfl); (case hr => first | (go_simp; done) | (go_simp; rfl)); intro gb343 hg w32 hbox hb; have n0_ := ak_ (blk_below (g := gb342) (o := .cells #[.int .i64 a0_0, .int .i64 a0_1, .int .i64 a0_2, .string a0_3, .int .i64 a0_4, .int .i64 a0_5, .bool a0_6, .int .i64 a0_7, .bool a0_8, .string a0_9, .int .i64 a0_10, .slice A0_11 l0_11.length c0_11] 42 (0, 0)) (by (with_reducible repeat (first | apply zn | apply zd | apply za)); exact BK342.out) hb); have n1_ := ak_ (ps (by with_reducible repeat first | exact HB.out | apply pa | apply pd | apply pe | refine zs ?_ GE342.out) hb); have n2_ := ak_ (hbox); have n3_ := ak_ ((by rw [hg]; exact (below_size (by with_reducible repeat first | exact HB.out | apply pa | apply pd | apply pe | refine zs ?_ GE342.out)) : w.heap.size ≤ gb343)); have n4_ := ak_ ((by rw [hg]; exact (below_size (by with_reducible repeat first | exact HB.out | apply pa | apply pd | apply pe | refine zs ?_ GE342.out)) : w.heap.size ≤ gb343)); have n5_ := ak_ ((by rw [hg]; exact Nat.ne_of_lt (blk_lt (g := gb342) (by (with_reducible repeat (first | apply zn | apply zd | apply za)); exact BK342.out)) : gb342 ≠ gb343)); have n6_ := ak_ ((by rw [hg]; exact Nat.ne_of_gt (blk_lt (g := gb342) (by (with_reducible repeat (first | apply zn | apply zd | apply za)); exact BK342.out)) : gb343 ≠ gb342)); clear BK342 HB; have BK342 := n0_; have HB := n1_; have BK343 := n2_; have GW343 := n3_; have GE343 := n4_; have NB342_343 := n5_; have NB343_342 := n6_; clear n0_ n1_ n2_ n3_ n4_ n5_ n6_ hb hbox hg; have hnb33 := NB343_342.out; have hnc33 := NB342_343.out; have hcz34_0 : w32.cell? ⟨gb343, 0, none⟩ = some (.int .i64 0) := (zc BK343.out 0).trans rfl; have hcz34_1 : w32.cell? ⟨gb343, 1, none⟩ = some (.int .i64 0) := (zc BK343.out 1).trans rfl; have hcz34_2 : w32.cell? ⟨gb343, 2, none⟩ = some (.bool false) := (zc BK343.out 2).trans rfl; have hcz34_3 : w32.cell? ⟨gb343, 3, none⟩ = some (.int .i64 0) := (zc BK343.out 3).trans rfl; have hcz34_4 : w32.cell? ⟨gb343, 4, none⟩ = some (.bool false) := (zc BK343.out 4).trans rfl; have hfz34_0 := zf BK343.out 0; have hfz34_1 := zf BK343.out 1; have hfz34_2 := zf BK343.out 2; have hfz34_3 := zf BK343.out 3; have hfz34_4 := zf BK343.out 4))
       (try simp only [Act.put, sa_, sz_, ss_])
       go_cut [68] (fun v68 wc => ∃ (kq : Nat) (x68_30 : Bool), v68 = .bool x68_30 ∧ Aside0 (uR15_Good.j3 kq x68_30 a0_0 a0_1 a0_2 a0_3 a0_4 a0_5 a0_6 a0_7 a0_8 a0_9 a0_10 l0_11 = some r) ∧ Aside0 (kq ≤ kj24) ∧ Aside0 (wc.heap[gb342]? = some (.cells #[.int .i64 a0_0, .int .i64 a0_1, .int .i64 a0_2, .string a0_3, .int .i64 a0_4, .int .i64 a0_5, .bool a0_6, .int .i64 a0_7, .bool a0_8, .string a0_9, .int .i64 a0_10, (.slice A0_11 l0_11.length c0_11)] 42 (0, 0))) ∧ Aside0 (wc.heap[gb343]? = some (.cells #[.int .i64 0, .int .i64 0, .bool false, .int .i64 0, .bool false] 40 (0, 0))) ∧ Aside0 (Below w.heap.size w wc))
       case first =>
        have H := HC31.out
        clear HC31
        by_cases c35 : a0_0 = 3
        · rw [if_pos c35] at H
          have c35b0 : (a0_0 == 3) = true := beq_iff_eq.mpr c35
          have c35b1 : (a0_0 != 3) = false := bne_eq_false_iff_eq.mpr c35
          clear c35
          (first | rw [c35b0] | (simp only [i64_w, i32_w]; rw [c35b0]) | skip)
          have H' := ak_ H
          clear H
          have hnb36 := NB342_343.out
          have hnc36 := NB343_342.out
          have hcz37_0 : w32.cell? ⟨gb342, 0, none⟩ = some (.int .i64 a0_0) := (zc BK342.out 0).trans rfl
          have hcz37_1 : w32.cell? ⟨gb342, 1, none⟩ = some (.int .i64 a0_1) := (zc BK342.out 1).trans rfl
          have hcz37_2 : w32.cell? ⟨gb342, 2, none⟩ = some (.int .i64 a0_2) := (zc BK342.out 2).trans rfl
          have hcz37_3 : w32.cell? ⟨gb342, 3, none⟩ = some (.string a0_3) := (zc BK342.out 3).trans rfl
          have hcz37_4 : w32.cell? ⟨gb342, 4, none⟩ = some (.int .i64 a0_4) := (zc BK342.out 4).trans rfl
          have hcz37_5 : w32.cell? ⟨gb342, 5, none⟩ = some (.int .i64 a0_5) := (zc BK342.out 5).trans rfl
          have hcz37_6 : w32.cell? ⟨gb342, 6, none⟩ = some (.bool a0_6) := (zc BK342.out 6).trans rfl
          have hcz37_7 : w32.cell? ⟨gb342, 7, none⟩ = some (.int .i64 a0_7) := (zc BK342.out 7).trans rfl
          have hcz37_8 : w32.cell? ⟨gb342, 8, none⟩ = some (.bool a0_8) := (zc BK342.out 8).trans rfl
          have hcz37_9 : w32.cell? ⟨gb342, 9, none⟩ = some (.string a0_9) := (zc BK342.out 9).trans rfl
          have hcz37_10 : w32.cell? ⟨gb342, 10, none⟩ = some (.int .i64 a0_10) := (zc BK342.out 10).trans rfl
          have hcz37_11 : w32.cell? ⟨gb342, 11, none⟩ = some (.slice A0_11 l0_11.length c0_11) := (zc BK342.out 11).trans rfl
          have hfz37_0 := zf BK342.out 0
          have hfz37_1 := zf BK342.out 1
          have hfz37_2 := zf BK342.out 2
          have hfz37_3 := zf BK342.out 3
          have hfz37_4 := zf BK342.out 4
          have hfz37_5 := zf BK342.out 5
          have hfz37_6 := zf BK342.out 6
          have hfz37_7 := zf BK342.out 7
          have hfz37_8 := zf BK342.out 8
          have hfz37_9 := zf BK342.out 9
          have hfz37_10 := zf BK342.out 10
          have hfz37_11 := zf BK342.out 11
          go_wp2
          go_meet
          case rel => exact ⟨_, (false), (by first | rfl | (simp [*]; done) | (generalize a0_3.toList = z_; cases z_ <;> first | rfl | (simp; done))), H', ⟨by have := HJ1.out; have := HJ14.out; have := HJ24.out; first | omega | exact Nat.le_refl _⟩, ⟨by (repeat (first | (with_reducible first | apply zn | apply zd | apply za) | refine zr ?_ NB342_343.out _)); (with_reducible repeat (first | apply zn | apply zd | apply za)); exact BK342.out⟩, ⟨by (with_reducible repeat (first | apply zn | apply zd | apply za)); refine zp (cs := #[.int .i64 0, .int .i64 0, .bool false, .int .i64 0, .bool false]) ?_ 4 _ rfl; (with_reducible repeat (first | apply zn | apply zd | apply za)); refine zp (cs := #[.int .i64 0, .int .i64 0, .bool false, .int .i64 0, .bool false]) ?_ 3 _ rfl; (with_reducible repeat (first | apply zn | apply zd | apply za)); refine zp (cs := #[.int .i64 0, .int .i64 0, .bool false, .int .i64 0, .bool false]) ?_ 2 _ rfl; (with_reducible repeat (first | apply zn | apply zd | apply za)); refine zp (cs := #[.int .i64 0, .int .i64 0, .bool false, .int .i64 0, .bool false]) ?_ 1 _ rfl; (with_reducible repeat (first | apply zn | apply zd | apply za)); refine zp (cs := #[.int .i64 0, .int .i64 0, .bool false, .int .i64 0, .bool false]) ?_ 0 _ rfl; (with_reducible repeat (first | apply zn | apply zd | apply za)); exact BK343.out⟩, ⟨by repeat (first | (with_reducible first | exact HB.out | apply pa | apply pd | apply pe | refine zs ?_ GE342.out | refine zs ?_ GE343.out) | exact HB.out)⟩⟩
        rw [if_neg c35] at H
        have c35b0 : (a0_0 == 3) = false := beq_eq_false_iff_ne.mpr c35
        have c35b1 : (a0_0 != 3) = true := bne_iff_ne.mpr c35
        (first | rw [c35b0] | (simp only [i64_w, i32_w]; rw [c35b0]) | skip)
        have H' := ak_ H
        clear H
        have hnb38 := NB342_343.out
        have hnc38 := NB343_342.out
        have hcz39_0 : w32.cell? ⟨gb342, 0, none⟩ = some (.int .i64 a0_0) := (zc BK342.out 0).trans rfl
        have hcz39_1 : w32.cell? ⟨gb342, 1, none⟩ = some (.int .i64 a0_1) := (zc BK342.out 1).trans rfl
        have hcz39_2 : w32.cell? ⟨gb342, 2, none⟩ = some (.int .i64 a0_2) := (zc BK342.out 2).trans rfl
        have hcz39_3 : w32.cell? ⟨gb342, 3, none⟩ = some (.string a0_3) := (zc BK342.out 3).trans rfl
        have hcz39_4 : w32.cell? ⟨gb342, 4, none⟩ = some (.int .i64 a0_4) := (zc BK342.out 4).trans rfl
        have hcz39_5 : w32.cell? ⟨gb342, 5, none⟩ = some (.int .i64 a0_5) := (zc BK342.out 5).trans rfl
        have hcz39_6 : w32.cell? ⟨gb342, 6, none⟩ = some (.bool a0_6) := (zc BK342.out 6).trans rfl
        have hcz39_7 : w32.cell? ⟨gb342, 7, none⟩ = some (.int .i64 a0_7) := (zc BK342.out 7).trans rfl
        have hcz39_8 : w32.cell? ⟨gb342, 8, none⟩ = some (.bool a0_8) := (zc BK342.out 8).trans rfl
        have hcz39_9 : w32.cell? ⟨gb342, 9, none⟩ = some (.string a0_9) := (zc BK342.out 9).trans rfl
        have hcz39_10 : w32.cell? ⟨gb342, 10, none⟩ = some (.int .i64 a0_10) := (zc BK342.out 10).trans rfl
        have hcz39_11 : w32.cell? ⟨gb342, 11, none⟩ = some (.slice A0_11 l0_11.length c0_11) := (zc BK342.out 11).trans rfl
        have hfz39_0 := zf BK342.out 0
        have hfz39_1 := zf BK342.out 1
        have hfz39_2 := zf BK342.out 2
        have hfz39_3 := zf BK342.out 3
        have hfz39_4 := zf BK342.out 4
        have hfz39_5 := zf BK342.out 5
        have hfz39_6 := zf BK342.out 6
        have hfz39_7 := zf BK342.out 7
        have hfz39_8 := zf BK342.out 8
        have hfz39_9 := zf BK342.out 9
        have hfz39_10 := zf BK342.out 10
        have hfz39_11 := zf BK342.out 11
        have hcz40_0 : w32.cell? ⟨gb343, 0, none⟩ = some (.int .i64 0) := (zc BK343.out 0).trans rfl
        have hcz40_1 : w32.cell? ⟨gb343, 1, none⟩ = some (.int .i64 0) := (zc BK343.out 1).trans rfl
        have hcz40_2 : w32.cell? ⟨gb343, 2, none⟩ = some (.bool false) := (zc BK343.out 2).trans rfl
        have hcz40_3 : w32.cell? ⟨gb343, 3, none⟩ = some (.int .i64 0) := (zc BK343.out 3).trans rfl
        have hcz40_4 : w32.cell? ⟨gb343, 4, none⟩ = some (.bool false) := (zc BK343.out 4).trans rfl
        have hfz40_0 := zf BK343.out 0
        have hfz40_1 := zf BK343.out 1
        have hfz40_2 := zf BK343.out 2
        have hfz40_3 := zf BK343.out 3
        have hfz40_4 := zf BK343.out 4
        go_wp2
        go_meet
        case rel => exact ⟨_, ((!(a0_4 == 0) || (!(a0_5 == 0) || (a0_6 || (!(a0_7 == 0) || (a0_8)))))), (by first | rfl | (simp [*]; done) | (generalize a0_3.toList = z_; cases z_ <;> first | rfl | (simp; done))), H', ⟨by have := HJ1.out; have := HJ14.out; have := HJ24.out; first | omega | exact Nat.le_refl _⟩, ⟨by (repeat (first | (with_reducible first | apply zn | apply zd | apply za) | refine zr ?_ NB342_343.out _)); (with_reducible repeat (first | apply zn | apply zd | apply za)); exact BK342.out⟩, ⟨by (with_reducible repeat (first | apply zn | apply zd | apply za)); refine zp (cs := #[.int .i64 0, .int .i64 0, .bool false, .int .i64 0, .bool false]) ?_ 4 _ rfl; (with_reducible repeat (first | apply zn | apply zd | apply za)); refine zp (cs := #[.int .i64 0, .int .i64 0, .bool false, .int .i64 0, .bool false]) ?_ 3 _ rfl; (with_reducible repeat (first | apply zn | apply zd | apply za)); refine zp (cs := #[.int .i64 0, .int .i64 0, .bool false, .int .i64 0, .bool false]) ?_ 2 _ rfl; (with_reducible repeat (first | apply zn | apply zd | apply za)); refine zp (cs := #[.int .i64 0, .int .i64 0, .bool false, .int .i64 0, .bool false]) ?_ 1 _ rfl; (with_reducible repeat (first | apply zn | apply zd | apply za)); refine zp (cs := #[.int .i64 0, .int .i64 0, .bool false, .int .i64 0, .bool false]) ?_ 0 _ rfl; (with_reducible repeat (first | apply zn | apply zd | apply za)); exact BK343.out⟩, ⟨by repeat (first | (with_reducible first | exact HB.out | apply pa | apply pd | apply pe | refine zs ?_ GE342.out | refine zs ?_ GE343.out) | exact HB.out)⟩⟩
       case rest =>
        clear HC31
        try clear c1
        try clear c2
        try clear p2
        try clear c3
        try clear c4
        try clear c4b0
        try clear c6
        try clear c6b0
        try clear c8
        try clear c8b0
        try clear c10
        try clear c10b0
        try clear c14
        try clear c16
        try clear c16b0
        try clear c16b1
        try clear c18
        try clear c18b0
        try clear c18b1
        try clear c19
        try clear c19b0
        try clear c19b1
        try clear c24
        try clear c26
        try clear c26b0
        try clear c26b1
        try clear c30
        try clear c33
        try clear c35
        try clear c35b0
        try clear c35b1
        try clear c36
        try clear c38
        try clear hcz11_0
        try clear hcz11_1
        try clear hcz11_10
        try clear hcz11_11
        try clear hcz11_2
        try clear hcz11_3
        try clear hcz11_4
        try clear hcz11_5
        try clear hcz11_6
        try clear hcz11_7
        try clear hcz11_8
        try clear hcz11_9
        try clear hcz12_0
        try clear hcz12_1
        try clear hcz12_10
        try clear hcz12_11
        try clear hcz12_2
        try clear hcz12_3
        try clear hcz12_4
        try clear hcz12_5
        try clear hcz12_6
        try clear hcz12_7
        try clear hcz12_8
        try clear hcz12_9
        try clear hcz17_0
        try clear hcz17_1
        try clear hcz17_10
        try clear hcz17_11
        try clear hcz17_2
        try clear hcz17_3
        try clear hcz17_4
        try clear hcz17_5
        try clear hcz17_6
        try clear hcz17_7
        try clear hcz17_8
        try clear hcz17_9
        try clear hcz20_0
        try clear hcz20_1
        try clear hcz20_10
        try clear hcz20_11
        try clear hcz20_2
        try clear hcz20_3
        try clear hcz20_4
        try clear hcz20_5
        try clear hcz20_6
        try clear hcz20_7
        try clear hcz20_8
        try clear hcz20_9
        try clear hcz21_0
        try clear hcz21_1
        try clear hcz21_10
        try clear hcz21_11
        try clear hcz21_2
        try clear hcz21_3
        try clear hcz21_4
        try clear hcz21_5
        try clear hcz21_6
        try clear hcz21_7
        try clear hcz21_8
        try clear hcz21_9
        try clear hcz22_0
        try clear hcz22_1
        try clear hcz22_10
        try clear hcz22_11
        try clear hcz22_2
        try clear hcz22_3
        try clear hcz22_4
        try clear hcz22_5
        try clear hcz22_6
        try clear hcz22_7
        try clear hcz22_8
        try clear hcz22_9
        try clear hcz27_0
        try clear hcz27_1
        try clear hcz27_10
        try clear hcz27_11
        try clear hcz27_2
        try clear hcz27_3
        try clear hcz27_4
        try clear hcz27_5
        try clear hcz27_6
        try clear hcz27_7
        try clear hcz27_8
        try clear hcz27_9
        try clear hcz28_0
        try clear hcz28_1
        try clear hcz28_10
        try clear hcz28_11
        try clear hcz28_2
        try clear hcz28_3
        try clear hcz28_4
        try clear hcz28_5
        try clear hcz28_6
        try clear hcz28_7
        try clear hcz28_8
        try clear hcz28_9
        try clear hcz34_0
        try clear hcz34_1
        try clear hcz34_2
        try clear hcz34_3
        try clear hcz34_4
        try clear hcz37_0
        try clear hcz37_1
        try clear hcz37_10
        try clear hcz37_11
        try clear hcz37_2
        try clear hcz37_3
        try clear hcz37_4
        try clear hcz37_5
        try clear hcz37_6
        try clear hcz37_7
        try clear hcz37_8
        try clear hcz37_9
        try clear hcz39_0
        try clear hcz39_1
        try clear hcz39_10
        try clear hcz39_11
        try clear hcz39_2
        try clear hcz39_3
        try clear hcz39_4
        try clear hcz39_5
        try clear hcz39_6
        try clear hcz39_7
        try clear hcz39_8
        try clear hcz39_9
        try clear hcz40_0
        try clear hcz40_1
        try clear hcz40_2
        try clear hcz40_3
        try clear hcz40_4
        try clear hcz5_0
        try clear hcz5_1
        try clear hcz5_10
        try clear hcz5_11
        try clear hcz5_2
        try clear hcz5_3
        try clear hcz5_4
        try clear hcz5_5
        try clear hcz5_6
        try clear hcz5_7
        try clear hcz5_8
        try clear hcz5_9
        try clear hcz7_0
        try clear hcz7_1
        try clear hcz7_10
        try clear hcz7_11
        try clear hcz7_2
        try clear hcz7_3
        try clear hcz7_4
        try clear hcz7_5
        try clear hcz7_6
        try clear hcz7_7
        try clear hcz7_8
        try clear hcz7_9
        try clear hcz9_0
        try clear hcz9_1
        try clear hcz9_10
        try clear hcz9_11
        try clear hcz9_2
        try clear hcz9_3
        try clear hcz9_4
        try clear hcz9_5
        try clear hcz9_6
        try clear hcz9_7
        try clear hcz9_8
        try clear hcz9_9
        try clear hfz11_0
        try clear hfz11_1
        try clear hfz11_10
        try clear hfz11_11
        try clear hfz11_2
        try clear hfz11_3
        try clear hfz11_4
        try clear hfz11_5
        try clear hfz11_6
        try clear hfz11_7
        try clear hfz11_8
        try clear hfz11_9
        try clear hfz12_0
        try clear hfz12_1
        try clear hfz12_10
        try clear hfz12_11
        try clear hfz12_2
        try clear hfz12_3
        try clear hfz12_4
        try clear hfz12_5
        try clear hfz12_6
        try clear hfz12_7
        try clear hfz12_8
        try clear hfz12_9
        try clear hfz17_0
        try clear hfz17_1
        try clear hfz17_10
        try clear hfz17_11
        try clear hfz17_2
        try clear hfz17_3
        try clear hfz17_4
        try clear hfz17_5
        try clear hfz17_6
        try clear hfz17_7
        try clear hfz17_8
        try clear hfz17_9
        try clear hfz20_0
        try clear hfz20_1
        try clear hfz20_10
        try clear hfz20_11
        try clear hfz20_2
        try clear hfz20_3
        try clear hfz20_4
        try clear hfz20_5
        try clear hfz20_6
        try clear hfz20_7
        try clear hfz20_8
        try clear hfz20_9
        try clear hfz21_0
        try clear hfz21_1
        try clear hfz21_10
        try clear hfz21_11
        try clear hfz21_2
        try clear hfz21_3
        try clear hfz21_4
        try clear hfz21_5
        try clear hfz21_6
        try clear hfz21_7
        try clear hfz21_8
        try clear hfz21_9
        try clear hfz22_0
        try clear hfz22_1
        try clear hfz22_10
        try clear hfz22_11
        try clear hfz22_2
        try clear hfz22_3
        try clear hfz22_4
        try clear hfz22_5
        try clear hfz22_6
        try clear hfz22_7
        try clear hfz22_8
        try clear hfz22_9
        try clear hfz27_0
        try clear hfz27_1
        try clear hfz27_10
        try clear hfz27_11
        try clear hfz27_2
        try clear hfz27_3
        try clear hfz27_4
        try clear hfz27_5
        try clear hfz27_6
        try clear hfz27_7
        try clear hfz27_8
        try clear hfz27_9
        try clear hfz28_0
        try clear hfz28_1
        try clear hfz28_10
        try clear hfz28_11
        try clear hfz28_2
        try clear hfz28_3
        try clear hfz28_4
        try clear hfz28_5
        try clear hfz28_6
        try clear hfz28_7
        try clear hfz28_8
        try clear hfz28_9
        try clear hfz34_0
        try clear hfz34_1
        try clear hfz34_2
        try clear hfz34_3
        try clear hfz34_4
        try clear hfz37_0
        try clear hfz37_1
        try clear hfz37_10
        try clear hfz37_11
        try clear hfz37_2
        try clear hfz37_3
        try clear hfz37_4
        try clear hfz37_5
        try clear hfz37_6
        try clear hfz37_7
        try clear hfz37_8
        try clear hfz37_9
        try clear hfz39_0
        try clear hfz39_1
        try clear hfz39_10
        try clear hfz39_11
        try clear hfz39_2
        try clear hfz39_3
        try clear hfz39_4
        try clear hfz39_5
        try clear hfz39_6
        try clear hfz39_7
        try clear hfz39_8
        try clear hfz39_9
        try clear hfz40_0
        try clear hfz40_1
        try clear hfz40_2
        try clear hfz40_3
        try clear hfz40_4
        try clear hfz5_0
        try clear hfz5_1
        try clear hfz5_10
        try clear hfz5_11
        try clear hfz5_2
        try clear hfz5_3
        try clear hfz5_4
        try clear hfz5_5
        try clear hfz5_6
        try clear hfz5_7
        try clear hfz5_8
        try clear hfz5_9
        try clear hfz7_0
        try clear hfz7_1
        try clear hfz7_10
        try clear hfz7_11
        try clear hfz7_2
        try clear hfz7_3
        try clear hfz7_4
        try clear hfz7_5
        try clear hfz7_6
        try clear hfz7_7
        try clear hfz7_8
        try clear hfz7_9
        try clear hfz9_0
        try clear hfz9_1
        try clear hfz9_10
        try clear hfz9_11
        try clear hfz9_2
        try clear hfz9_3
        try clear hfz9_4
        try clear hfz9_5
        try clear hfz9_6
        try clear hfz9_7
        try clear hfz9_8
        try clear hfz9_9
        try clear p2
        obtain ⟨kq, x68_30, rfl, HA, HJ30, BK342, BK343, HB⟩ := hcut
        cases kq with
        | zero => exact absurd HA.out (by simp [uR15_Good.j3])
        | succ kj30 =>
         have H := HA.out
         clear HA
         simp only [uR15_Good.j3] at H
         have HF41 := ak_ H
         clear H
         go_upto_if 68 with (fail)
         have H := HF41.out
         clear HF41
         by_cases c42 : x68_30 = true
         · subst c42
           have H1 : (some false) = some r := by rw [if_pos rfl] at H; exact H
           clear H
           have H := H1
           clear H1
           obtain rfl := Option.some.inj H
           go_wp2
           go_ret
           exact ⟨by first | rfl | simp [*], by repeat (first | (with_reducible first | exact HB.out | apply pa | apply pd | apply pe | refine zs ?_ GE342.out | refine zs ?_ GE343.out) | exact HB.out)⟩
         replace c42 := Bool.eq_false_iff.mpr c42
         subst c42
         have H1 : (if a0_0 = 0 then ((uK.f kj30 a0_9 a0_10 l0_11).bind fun bt344 => (if bt344.2 = 0 then (some (a0_2 == 0)) else (some false))) else (if a0_0 = 1 then ((uR02_Good.f kj30 a0_3).bind fun t346 => (some t346)) else (if a0_4 ≥ 0 then (if a0_5 ≥ 0 then (some (decide (a0_7 ≥ 0))) else (some false)) else (some false)))) = some r := by rw [if_neg (show ¬ (false = true) by decide)] at H; exact H
         clear H
         have H := H1
         clear H1
         have HF43 := ak_ H
         clear H
         have hnb44 := NB342_343.out
         have hnc44 := NB343_342.out
         have hcz45_0 : wc.cell? ⟨gb342, 0, none⟩ = some (.int .i64 a0_0) := (zc BK342.out 0).trans rfl
         have hcz45_1 : wc.cell? ⟨gb342, 1, none⟩ = some (.int .i64 a0_1) := (zc BK342.out 1).trans rfl
         have hcz45_2 : wc.cell? ⟨gb342, 2, none⟩ = some (.int .i64 a0_2) := (zc BK342.out 2).trans rfl
         have hcz45_3 : wc.cell? ⟨gb342, 3, none⟩ = some (.string a0_3) := (zc BK342.out 3).trans rfl
         have hcz45_4 : wc.cell? ⟨gb342, 4, none⟩ = some (.int .i64 a0_4) := (zc BK342.out 4).trans rfl
         have hcz45_5 : wc.cell? ⟨gb342, 5, none⟩ = some (.int .i64 a0_5) := (zc BK342.out 5).trans rfl
         have hcz45_6 : wc.cell? ⟨gb342, 6, none⟩ = some (.bool a0_6) := (zc BK342.out 6).trans rfl
         have hcz45_7 : wc.cell? ⟨gb342, 7, none⟩ = some (.int .i64 a0_7) := (zc BK342.out 7).trans rfl
         have hcz45_8 : wc.cell? ⟨gb342, 8, none⟩ = some (.bool a0_8) := (zc BK342.out 8).trans rfl
         have hcz45_9 : wc.cell? ⟨gb342, 9, none⟩ = some (.string a0_9) := (zc BK342.out 9).trans rfl
         have hcz45_10 : wc.cell? ⟨gb342, 10, none⟩ = some (.int .i64 a0_10) := (zc BK342.out 10).trans rfl
         have hcz45_11 : wc.cell? ⟨gb342, 11, none⟩ = some (.slice A0_11 l0_11.length c0_11) := (zc BK342.out 11).trans rfl
         have hfz45_0 := zf BK342.out 0
         have hfz45_1 := zf BK342.out 1
         have hfz45_2 := zf BK342.out 2
         have hfz45_3 := zf BK342.out 3
         have hfz45_4 := zf BK342.out 4
         have hfz45_5 := zf BK342.out 5
         have hfz45_6 := zf BK342.out 6
         have hfz45_7 := zf BK342.out 7
         have hfz45_8 := zf BK342.out 8
         have hfz45_9 := zf BK342.out 9
         have hfz45_10 := zf BK342.out 10
         have hfz45_11 := zf BK342.out 11
         go_upto_if 71 with (fail)
         have H := HF43.out
         clear HF43
         by_cases c46 : a0_0 = 0
         · rw [if_pos c46] at H
           have c46b0 : (a0_0 == 0) = true := beq_iff_eq.mpr c46
           have c46b1 : (a0_0 != 0) = false := bne_eq_false_iff_eq.mpr c46
           clear c46
           (first | rw [c46b0] | (simp only [i64_w, i32_w]; rw [c46b0]) | skip)
           replace H := ob_ H
           obtain ⟨⟨t344, t345⟩, A470, H⟩ := H
           replace H : (if t345 = 0 then (some (a0_2 == 0)) else (some false)) = some r := H
           have A47 := ak_ A470
           clear A470
           by_cases c48 : t345 = 0
           · rw [if_pos c48] at H
             have c48b0 : (t345 == 0) = true := beq_iff_eq.mpr c48
             have c48b1 : (t345 != 0) = false := bne_eq_false_iff_eq.mpr c48
             clear c48
             obtain rfl := Option.some.inj H
             have hnb49 := NB342_343.out
             have hnc49 := NB343_342.out
             have hcz50_0 : wc.cell? ⟨gb342, 0, none⟩ = some (.int .i64 a0_0) := (zc BK342.out 0).trans rfl
             have hcz50_1 : wc.cell? ⟨gb342, 1, none⟩ = some (.int .i64 a0_1) := (zc BK342.out 1).trans rfl
             have hcz50_2 : wc.cell? ⟨gb342, 2, none⟩ = some (.int .i64 a0_2) := (zc BK342.out 2).trans rfl
             have hcz50_3 : wc.cell? ⟨gb342, 3, none⟩ = some (.string a0_3) := (zc BK342.out 3).trans rfl
             have hcz50_4 : wc.cell? ⟨gb342, 4, none⟩ = some (.int .i64 a0_4) := (zc BK342.out 4).trans rfl
             have hcz50_5 : wc.cell? ⟨gb342, 5, none⟩ = some (.int .i64 a0_5) := (zc BK342.out 5).trans rfl
             have hcz50_6 : wc.cell? ⟨gb342, 6, none⟩ = some (.bool a0_6) := (zc BK342.out 6).trans rfl
             have hcz50_7 : wc.cell? ⟨gb342, 7, none⟩ = some (.int .i64 a0_7) := (zc BK342.out 7).trans rfl
             have hcz50_8 : wc.cell? ⟨gb342, 8, none⟩ = some (.bool a0_8) := (zc BK342.out 8).trans rfl
             have hcz50_9 : wc.cell? ⟨gb342, 9, none⟩ = some (.string a0_9) := (zc BK342.out 9).trans rfl
             have hcz50_10 : wc.cell? ⟨gb342, 10, none⟩ = some (.int .i64 a0_10) := (zc BK342.out 10).trans rfl
             have hcz50_11 : wc.cell? ⟨gb342, 11, none⟩ = some (.slice A0_11 l0_11.length c0_11) := (zc BK342.out 11).trans rfl
             have hfz50_0 := zf BK342.out 0
             have hfz50_1 := zf BK342.out 1
             have hfz50_2 := zf BK342.out 2
             have hfz50_3 := zf BK342.out 3
             have hfz50_4 := zf BK342.out 4
             have hfz50_5 := zf BK342.out 5
             have hfz50_6 := zf BK342.out 6
             have hfz50_7 := zf BK342.out 7
             have hfz50_8 := zf BK342.out 8
             have hfz50_9 := zf BK342.out 9
             have hfz50_10 := zf BK342.out 10
             have hfz50_11 := zf BK342.out 11
             go_wp2_with (first | ((with_reducible refine gate_callee (f := 13) rfl ?_); refine goesL_ (some 75) rfl rfl Tryd.func13 (by kernel_rfl) rfl #[.agg #[.string a0_9, .int .i64 a0_10, .slice A0_11 l0_11.length c0_11]] rfl (by (try simp only [mt_, mc_, mn_]); first | done | rfl) ?_; (with_reducible refine (uK.calls kj30 a0_9 a0_10 _ _ l0_11 t344 t345 _ ?side1 ?side2 A47.out).mono ?_); (case side1 => repeat (first | exact (Kd.C_below HR0_11.out HB.out) | (with_reducible refine Kd.C_alloc ?_ _) | (with_reducible refine Kd.C_drewN ?_ _) | (with_reducible refine Kd.C_drew ?_))); (case side2 => exact HC0_11.out); rintro e w51 ⟨rfl, hb⟩; refine ⟨_, rfl, ?_⟩; have n0_ := ak_ (blk_below (g := gb342) (o := .cells #[.int .i64 a0_0, .int .i64 a0_1, .int .i64 a0_2, .string a0_3, .int .i64 a0_4, .int .i64 a0_5, .bool a0_6, .int .i64 a0_7, .bool a0_8, .string a0_9, .int .i64 a0_10, .slice A0_11 l0_11.length c0_11] 42 (0, 0)) (by (with_reducible repeat (first | apply zn | apply zd | apply za)); exact BK342.out) hb); have n1_ := ak_ (blk_below (g := gb343) (o := .cells #[.int .i64 0, .int .i64 0, .bool false, .int .i64 0, .bool false] 40 (0, 0)) (by (with_reducible repeat (first | apply zn | apply zd | apply za)); exact BK343.out) hb); have n2_ := ak_ (ps (by with_reducible repeat first | exact HB.out | apply pa | apply pd | apply pe | refine zs ?_ GE342.out | refine zs ?_ GE343.out) hb); clear BK342 BK343 HB; have BK342 := n0_; have BK343 := n1_; have HB := n2_; clear n0_ n1_ n2_; have hcz52_0 : w51.cell? ⟨gb342, 0, none⟩ = some (.int .i64 a0_0) := (zc BK342.out 0).trans rfl; have hcz52_1 : w51.cell? ⟨gb342, 1, none⟩ = some (.int .i64 a0_1) := (zc BK342.out 1).trans rfl; have hcz52_2 : w51.cell? ⟨gb342, 2, none⟩ = some (.int .i64 a0_2) := (zc BK342.out 2).trans rfl; have hcz52_3 : w51.cell? ⟨gb342, 3, none⟩ = some (.string a0_3) := (zc BK342.out 3).trans rfl; have hcz52_4 : w51.cell? ⟨gb342, 4, none⟩ = some (.int .i64 a0_4) := (zc BK342.out 4).trans rfl; have hcz52_5 : w51.cell? ⟨gb342, 5, none⟩ = some (.int .i64 a0_5) := (zc BK342.out 5).trans rfl; have hcz52_6 : w51.cell? ⟨gb342, 6, none⟩ = some (.bool a0_6) := (zc BK342.out 6).trans rfl; have hcz52_7 : w51.cell? ⟨gb342, 7, none⟩ = some (.int .i64 a0_7) := (zc BK342.out 7).trans rfl; have hcz52_8 : w51.cell? ⟨gb342, 8, none⟩ = some (.bool a0_8) := (zc BK342.out 8).trans rfl; have hcz52_9 : w51.cell? ⟨gb342, 9, none⟩ = some (.string a0_9) := (zc BK342.out 9).trans rfl; have hcz52_10 : w51.cell? ⟨gb342, 10, none⟩ = some (.int .i64 a0_10) := (zc BK342.out 10).trans rfl; have hcz52_11 : w51.cell? ⟨gb342, 11, none⟩ = some (.slice A0_11 l0_11.length c0_11) := (zc BK342.out 11).trans rfl; have hfz52_0 := zf BK342.out 0; have hfz52_1 := zf BK342.out 1; have hfz52_2 := zf BK342.out 2; have hfz52_3 := zf BK342.out 3; have hfz52_4 := zf BK342.out 4; have hfz52_5 := zf BK342.out 5; have hfz52_6 := zf BK342.out 6; have hfz52_7 := zf BK342.out 7; have hfz52_8 := zf BK342.out 8; have hfz52_9 := zf BK342.out 9; have hfz52_10 := zf BK342.out 10; have hfz52_11 := zf BK342.out 11))
             go_ret
             exact ⟨by first | rfl | simp [*], by repeat (first | (with_reducible first | exact HB.out | apply pa | apply pd | apply pe | refine zs ?_ GE342.out | refine zs ?_ GE343.out) | exact HB.out)⟩
           rw [if_neg c48] at H
           have c48b0 : (t345 == 0) = false := beq_eq_false_iff_ne.mpr c48
           have c48b1 : (t345 != 0) = true := bne_iff_ne.mpr c48
           obtain rfl := Option.some.inj H
           have hnb53 := NB342_343.out
           have hnc53 := NB343_342.out
           have hcz54_0 : wc.cell? ⟨gb342, 0, none⟩ = some (.int .i64 a0_0) := (zc BK342.out 0).trans rfl
           have hcz54_1 : wc.cell? ⟨gb342, 1, none⟩ = some (.int .i64 a0_1) := (zc BK342.out 1).trans rfl
           have hcz54_2 : wc.cell? ⟨gb342, 2, none⟩ = some (.int .i64 a0_2) := (zc BK342.out 2).trans rfl
           have hcz54_3 : wc.cell? ⟨gb342, 3, none⟩ = some (.string a0_3) := (zc BK342.out 3).trans rfl
           have hcz54_4 : wc.cell? ⟨gb342, 4, none⟩ = some (.int .i64 a0_4) := (zc BK342.out 4).trans rfl
           have hcz54_5 : wc.cell? ⟨gb342, 5, none⟩ = some (.int .i64 a0_5) := (zc BK342.out 5).trans rfl
           have hcz54_6 : wc.cell? ⟨gb342, 6, none⟩ = some (.bool a0_6) := (zc BK342.out 6).trans rfl
           have hcz54_7 : wc.cell? ⟨gb342, 7, none⟩ = some (.int .i64 a0_7) := (zc BK342.out 7).trans rfl
           have hcz54_8 : wc.cell? ⟨gb342, 8, none⟩ = some (.bool a0_8) := (zc BK342.out 8).trans rfl
           have hcz54_9 : wc.cell? ⟨gb342, 9, none⟩ = some (.string a0_9) := (zc BK342.out 9).trans rfl
           have hcz54_10 : wc.cell? ⟨gb342, 10, none⟩ = some (.int .i64 a0_10) := (zc BK342.out 10).trans rfl
           have hcz54_11 : wc.cell? ⟨gb342, 11, none⟩ = some (.slice A0_11 l0_11.length c0_11) := (zc BK342.out 11).trans rfl
           have hfz54_0 := zf BK342.out 0
           have hfz54_1 := zf BK342.out 1
           have hfz54_2 := zf BK342.out 2
           have hfz54_3 := zf BK342.out 3
           have hfz54_4 := zf BK342.out 4
           have hfz54_5 := zf BK342.out 5
           have hfz54_6 := zf BK342.out 6
           have hfz54_7 := zf BK342.out 7
           have hfz54_8 := zf BK342.out 8
           have hfz54_9 := zf BK342.out 9
           have hfz54_10 := zf BK342.out 10
           have hfz54_11 := zf BK342.out 11
           go_wp2_with (first | ((with_reducible refine gate_callee (f := 13) rfl ?_); refine goesL_ (some 75) rfl rfl Tryd.func13 (by kernel_rfl) rfl #[.agg #[.string a0_9, .int .i64 a0_10, .slice A0_11 l0_11.length c0_11]] rfl (by (try simp only [mt_, mc_, mn_]); first | done | rfl) ?_; (with_reducible refine (uK.calls kj30 a0_9 a0_10 _ _ l0_11 t344 t345 _ ?side1 ?side2 A47.out).mono ?_); (case side1 => repeat (first | exact (Kd.C_below HR0_11.out HB.out) | (with_reducible refine Kd.C_alloc ?_ _) | (with_reducible refine Kd.C_drewN ?_ _) | (with_reducible refine Kd.C_drew ?_))); (case side2 => exact HC0_11.out); rintro e w55 ⟨rfl, hb⟩; refine ⟨_, rfl, ?_⟩; have n0_ := ak_ (blk_below (g := gb342) (o := .cells #[.int .i64 a0_0, .int .i64 a0_1, .int .i64 a0_2, .string a0_3, .int .i64 a0_4, .int .i64 a0_5, .bool a0_6, .int .i64 a0_7, .bool a0_8, .string a0_9, .int .i64 a0_10, .slice A0_11 l0_11.length c0_11] 42 (0, 0)) (by (with_reducible repeat (first | apply zn | apply zd | apply za)); exact BK342.out) hb); have n1_ := ak_ (blk_below (g := gb343) (o := .cells #[.int .i64 0, .int .i64 0, .bool false, .int .i64 0, .bool false] 40 (0, 0)) (by (with_reducible repeat (first | apply zn | apply zd | apply za)); exact BK343.out) hb); have n2_ := ak_ (ps (by with_reducible repeat first | exact HB.out | apply pa | apply pd | apply pe | refine zs ?_ GE342.out | refine zs ?_ GE343.out) hb); clear BK342 BK343 HB; have BK342 := n0_; have BK343 := n1_; have HB := n2_; clear n0_ n1_ n2_))
           go_ret
           exact ⟨by first | rfl | simp [*], by repeat (first | (with_reducible first | exact HB.out | apply pa | apply pd | apply pe | refine zs ?_ GE342.out | refine zs ?_ GE343.out) | exact HB.out)⟩
         rw [if_neg c46] at H
         have c46b0 : (a0_0 == 0) = false := beq_eq_false_iff_ne.mpr c46
         have c46b1 : (a0_0 != 0) = true := bne_iff_ne.mpr c46
         (first | rw [c46b0] | (simp only [i64_w, i32_w]; rw [c46b0]) | skip)
         have HF56 := ak_ H
         clear H
         have hnb57 := NB342_343.out
         have hnc57 := NB343_342.out
         have hcz58_0 : wc.cell? ⟨gb342, 0, none⟩ = some (.int .i64 a0_0) := (zc BK342.out 0).trans rfl
         have hcz58_1 : wc.cell? ⟨gb342, 1, none⟩ = some (.int .i64 a0_1) := (zc BK342.out 1).trans rfl
         have hcz58_2 : wc.cell? ⟨gb342, 2, none⟩ = some (.int .i64 a0_2) := (zc BK342.out 2).trans rfl
         have hcz58_3 : wc.cell? ⟨gb342, 3, none⟩ = some (.string a0_3) := (zc BK342.out 3).trans rfl
         have hcz58_4 : wc.cell? ⟨gb342, 4, none⟩ = some (.int .i64 a0_4) := (zc BK342.out 4).trans rfl
         have hcz58_5 : wc.cell? ⟨gb342, 5, none⟩ = some (.int .i64 a0_5) := (zc BK342.out 5).trans rfl
         have hcz58_6 : wc.cell? ⟨gb342, 6, none⟩ = some (.bool a0_6) := (zc BK342.out 6).trans rfl
         have hcz58_7 : wc.cell? ⟨gb342, 7, none⟩ = some (.int .i64 a0_7) := (zc BK342.out 7).trans rfl
         have hcz58_8 : wc.cell? ⟨gb342, 8, none⟩ = some (.bool a0_8) := (zc BK342.out 8).trans rfl
         have hcz58_9 : wc.cell? ⟨gb342, 9, none⟩ = some (.string a0_9) := (zc BK342.out 9).trans rfl
         have hcz58_10 : wc.cell? ⟨gb342, 10, none⟩ = some (.int .i64 a0_10) := (zc BK342.out 10).trans rfl
         have hcz58_11 : wc.cell? ⟨gb342, 11, none⟩ = some (.slice A0_11 l0_11.length c0_11) := (zc BK342.out 11).trans rfl
         have hfz58_0 := zf BK342.out 0
         have hfz58_1 := zf BK342.out 1
         have hfz58_2 := zf BK342.out 2
         have hfz58_3 := zf BK342.out 3
         have hfz58_4 := zf BK342.out 4
         have hfz58_5 := zf BK342.out 5
         have hfz58_6 := zf BK342.out 6
         have hfz58_7 := zf BK342.out 7
         have hfz58_8 := zf BK342.out 8
         have hfz58_9 := zf BK342.out 9
         have hfz58_10 := zf BK342.out 10
         have hfz58_11 := zf BK342.out 11
         go_upto_if 87 with (fail)
         have H := HF56.out
         clear HF56
         by_cases c59 : a0_0 = 1
         · rw [if_pos c59] at H
           have c59b0 : (a0_0 == 1) = true := beq_iff_eq.mpr c59
           have c59b1 : (a0_0 != 1) = false := bne_eq_false_iff_eq.mpr c59
           clear c59
           (first | rw [c59b0] | (simp only [i64_w, i32_w]; rw [c59b0]) | skip)
           replace H := ob_ H
           obtain ⟨t346, A600, H⟩ := H
           replace H : (some t346) = some r := H
           have A60 := ak_ A600
           clear A600
           obtain rfl := Option.some.inj H
           have hnb61 := NB342_343.out
           have hnc61 := NB343_342.out
           have hcz62_0 : wc.cell? ⟨gb342, 0, none⟩ = some (.int .i64 a0_0) := (zc BK342.out 0).trans rfl
           have hcz62_1 : wc.cell? ⟨gb342, 1, none⟩ = some (.int .i64 a0_1) := (zc BK342.out 1).trans rfl
           have hcz62_2 : wc.cell? ⟨gb342, 2, none⟩ = some (.int .i64 a0_2) := (zc BK342.out 2).trans rfl
           have hcz62_3 : wc.cell? ⟨gb342, 3, none⟩ = some (.string a0_3) := (zc BK342.out 3).trans rfl
           have hcz62_4 : wc.cell? ⟨gb342, 4, none⟩ = some (.int .i64 a0_4) := (zc BK342.out 4).trans rfl
           have hcz62_5 : wc.cell? ⟨gb342, 5, none⟩ = some (.int .i64 a0_5) := (zc BK342.out 5).trans rfl
           have hcz62_6 : wc.cell? ⟨gb342, 6, none⟩ = some (.bool a0_6) := (zc BK342.out 6).trans rfl
           have hcz62_7 : wc.cell? ⟨gb342, 7, none⟩ = some (.int .i64 a0_7) := (zc BK342.out 7).trans rfl
           have hcz62_8 : wc.cell? ⟨gb342, 8, none⟩ = some (.bool a0_8) := (zc BK342.out 8).trans rfl
           have hcz62_9 : wc.cell? ⟨gb342, 9, none⟩ = some (.string a0_9) := (zc BK342.out 9).trans rfl
           have hcz62_10 : wc.cell? ⟨gb342, 10, none⟩ = some (.int .i64 a0_10) := (zc BK342.out 10).trans rfl
           have hcz62_11 : wc.cell? ⟨gb342, 11, none⟩ = some (.slice A0_11 l0_11.length c0_11) := (zc BK342.out 11).trans rfl
           have hfz62_0 := zf BK342.out 0
           have hfz62_1 := zf BK342.out 1
           have hfz62_2 := zf BK342.out 2
           have hfz62_3 := zf BK342.out 3
           have hfz62_4 := zf BK342.out 4
           have hfz62_5 := zf BK342.out 5
           have hfz62_6 := zf BK342.out 6
           have hfz62_7 := zf BK342.out 7
           have hfz62_8 := zf BK342.out 8
           have hfz62_9 := zf BK342.out 9
           have hfz62_10 := zf BK342.out 10
           have hfz62_11 := zf BK342.out 11
           go_wp2_with (first | ((with_reducible refine gate_callee (f := 34) rfl ?_); refine goesL_ (some 90) rfl rfl Tryd.func34 (by kernel_rfl) rfl #[.string a0_3] rfl (by simp only [mt_, mc_, mn_] <;> rfl) ?_; (with_reducible refine (uR02_Good.calls kj30 a0_3 t346 _ A60.out).mono ?_); rintro e w' ⟨rfl, ⟨nd, rfl⟩⟩; refine ⟨_, rfl, ?_⟩))
           go_ret
           exact ⟨by first | rfl | simp [*], by repeat (first | (with_reducible first | exact HB.out | apply pa | apply pd | apply pe | refine zs ?_ GE342.out | refine zs ?_ GE343.out) | exact HB.out)⟩
         rw [if_neg c59] at H
         have c59b0 : (a0_0 == 1) = false := beq_eq_false_iff_ne.mpr c59
         have c59b1 : (a0_0 != 1) = true := bne_iff_ne.mpr c59
         (first | rw [c59b0] | (simp only [i64_w, i32_w]; rw [c59b0]) | skip)
         by_cases c63 : a0_4 ≥ 0
         · rw [if_pos c63] at H
           have c63b0 : decide (0 ≤ a0_4) = true := dt_ c63
           clear c63
           by_cases c64 : a0_5 ≥ 0
           · rw [if_pos c64] at H
             have c64b0 : decide (0 ≤ a0_5) = true := dt_ c64
             clear c64
             obtain rfl := Option.some.inj H
             have hnb65 := NB342_343.out
             have hnc65 := NB343_342.out
             have hcz66_0 : wc.cell? ⟨gb342, 0, none⟩ = some (.int .i64 a0_0) := (zc BK342.out 0).trans rfl
             have hcz66_1 : wc.cell? ⟨gb342, 1, none⟩ = some (.int .i64 a0_1) := (zc BK342.out 1).trans rfl
             have hcz66_2 : wc.cell? ⟨gb342, 2, none⟩ = some (.int .i64 a0_2) := (zc BK342.out 2).trans rfl
             have hcz66_3 : wc.cell? ⟨gb342, 3, none⟩ = some (.string a0_3) := (zc BK342.out 3).trans rfl
             have hcz66_4 : wc.cell? ⟨gb342, 4, none⟩ = some (.int .i64 a0_4) := (zc BK342.out 4).trans rfl
             have hcz66_5 : wc.cell? ⟨gb342, 5, none⟩ = some (.int .i64 a0_5) := (zc BK342.out 5).trans rfl
             have hcz66_6 : wc.cell? ⟨gb342, 6, none⟩ = some (.bool a0_6) := (zc BK342.out 6).trans rfl
             have hcz66_7 : wc.cell? ⟨gb342, 7, none⟩ = some (.int .i64 a0_7) := (zc BK342.out 7).trans rfl
             have hcz66_8 : wc.cell? ⟨gb342, 8, none⟩ = some (.bool a0_8) := (zc BK342.out 8).trans rfl
             have hcz66_9 : wc.cell? ⟨gb342, 9, none⟩ = some (.string a0_9) := (zc BK342.out 9).trans rfl
             have hcz66_10 : wc.cell? ⟨gb342, 10, none⟩ = some (.int .i64 a0_10) := (zc BK342.out 10).trans rfl
             have hcz66_11 : wc.cell? ⟨gb342, 11, none⟩ = some (.slice A0_11 l0_11.length c0_11) := (zc BK342.out 11).trans rfl
             have hfz66_0 := zf BK342.out 0
             have hfz66_1 := zf BK342.out 1
             have hfz66_2 := zf BK342.out 2
             have hfz66_3 := zf BK342.out 3
             have hfz66_4 := zf BK342.out 4
             have hfz66_5 := zf BK342.out 5
             have hfz66_6 := zf BK342.out 6
             have hfz66_7 := zf BK342.out 7
             have hfz66_8 := zf BK342.out 8
             have hfz66_9 := zf BK342.out 9
             have hfz66_10 := zf BK342.out 10
             have hfz66_11 := zf BK342.out 11
             go_wp2
             go_ret
             exact ⟨by first | rfl | simp [*], by repeat (first | (with_reducible first | exact HB.out | apply pa | apply pd | apply pe | refine zs ?_ GE342.out | refine zs ?_ GE343.out) | exact HB.out)⟩
           rw [if_neg c64] at H
           have c64b0 : decide (0 ≤ a0_5) = false := df_ c64
           clear c64
           obtain rfl := Option.some.inj H
           have hnb67 := NB342_343.out
           have hnc67 := NB343_342.out
           have hcz68_0 : wc.cell? ⟨gb342, 0, none⟩ = some (.int .i64 a0_0) := (zc BK342.out 0).trans rfl
           have hcz68_1 : wc.cell? ⟨gb342, 1, none⟩ = some (.int .i64 a0_1) := (zc BK342.out 1).trans rfl
           have hcz68_2 : wc.cell? ⟨gb342, 2, none⟩ = some (.int .i64 a0_2) := (zc BK342.out 2).trans rfl
           have hcz68_3 : wc.cell? ⟨gb342, 3, none⟩ = some (.string a0_3) := (zc BK342.out 3).trans rfl
           have hcz68_4 : wc.cell? ⟨gb342, 4, none⟩ = some (.int .i64 a0_4) := (zc BK342.out 4).trans rfl
           have hcz68_5 : wc.cell? ⟨gb342, 5, none⟩ = some (.int .i64 a0_5) := (zc BK342.out 5).trans rfl
           have hcz68_6 : wc.cell? ⟨gb342, 6, none⟩ = some (.bool a0_6) := (zc BK342.out 6).trans rfl
           have hcz68_7 : wc.cell? ⟨gb342, 7, none⟩ = some (.int .i64 a0_7) := (zc BK342.out 7).trans rfl
           have hcz68_8 : wc.cell? ⟨gb342, 8, none⟩ = some (.bool a0_8) := (zc BK342.out 8).trans rfl
           have hcz68_9 : wc.cell? ⟨gb342, 9, none⟩ = some (.string a0_9) := (zc BK342.out 9).trans rfl
           have hcz68_10 : wc.cell? ⟨gb342, 10, none⟩ = some (.int .i64 a0_10) := (zc BK342.out 10).trans rfl
           have hcz68_11 : wc.cell? ⟨gb342, 11, none⟩ = some (.slice A0_11 l0_11.length c0_11) := (zc BK342.out 11).trans rfl
           have hfz68_0 := zf BK342.out 0
           have hfz68_1 := zf BK342.out 1
           have hfz68_2 := zf BK342.out 2
           have hfz68_3 := zf BK342.out 3
           have hfz68_4 := zf BK342.out 4
           have hfz68_5 := zf BK342.out 5
           have hfz68_6 := zf BK342.out 6
           have hfz68_7 := zf BK342.out 7
           have hfz68_8 := zf BK342.out 8
           have hfz68_9 := zf BK342.out 9
           have hfz68_10 := zf BK342.out 10
           have hfz68_11 := zf BK342.out 11
           go_wp2
           go_ret
           exact ⟨by first | rfl | simp [*], by repeat (first | (with_reducible first | exact HB.out | apply pa | apply pd | apply pe | refine zs ?_ GE342.out | refine zs ?_ GE343.out) | exact HB.out)⟩
         rw [if_neg c63] at H
         have c63b0 : decide (0 ≤ a0_4) = false := df_ c63
         clear c63
         obtain rfl := Option.some.inj H
         have hnb69 := NB342_343.out
         have hnc69 := NB343_342.out
         have hcz70_0 : wc.cell? ⟨gb342, 0, none⟩ = some (.int .i64 a0_0) := (zc BK342.out 0).trans rfl
         have hcz70_1 : wc.cell? ⟨gb342, 1, none⟩ = some (.int .i64 a0_1) := (zc BK342.out 1).trans rfl
         have hcz70_2 : wc.cell? ⟨gb342, 2, none⟩ = some (.int .i64 a0_2) := (zc BK342.out 2).trans rfl
         have hcz70_3 : wc.cell? ⟨gb342, 3, none⟩ = some (.string a0_3) := (zc BK342.out 3).trans rfl
         have hcz70_4 : wc.cell? ⟨gb342, 4, none⟩ = some (.int .i64 a0_4) := (zc BK342.out 4).trans rfl
         have hcz70_5 : wc.cell? ⟨gb342, 5, none⟩ = some (.int .i64 a0_5) := (zc BK342.out 5).trans rfl
         have hcz70_6 : wc.cell? ⟨gb342, 6, none⟩ = some (.bool a0_6) := (zc BK342.out 6).trans rfl
         have hcz70_7 : wc.cell? ⟨gb342, 7, none⟩ = some (.int .i64 a0_7) := (zc BK342.out 7).trans rfl
         have hcz70_8 : wc.cell? ⟨gb342, 8, none⟩ = some (.bool a0_8) := (zc BK342.out 8).trans rfl
         have hcz70_9 : wc.cell? ⟨gb342, 9, none⟩ = some (.string a0_9) := (zc BK342.out 9).trans rfl
         have hcz70_10 : wc.cell? ⟨gb342, 10, none⟩ = some (.int .i64 a0_10) := (zc BK342.out 10).trans rfl
         have hcz70_11 : wc.cell? ⟨gb342, 11, none⟩ = some (.slice A0_11 l0_11.length c0_11) := (zc BK342.out 11).trans rfl
         have hfz70_0 := zf BK342.out 0
         have hfz70_1 := zf BK342.out 1
         have hfz70_2 := zf BK342.out 2
         have hfz70_3 := zf BK342.out 3
         have hfz70_4 := zf BK342.out 4
         have hfz70_5 := zf BK342.out 5
         have hfz70_6 := zf BK342.out 6
         have hfz70_7 := zf BK342.out 7
         have hfz70_8 := zf BK342.out 8
         have hfz70_9 := zf BK342.out 9
         have hfz70_10 := zf BK342.out 10
         have hfz70_11 := zf BK342.out 11
         go_wp2
         go_ret
         exact ⟨by first | rfl | simp [*], by repeat (first | (with_reducible first | exact HB.out | apply pa | apply pd | apply pe | refine zs ?_ GE342.out | refine zs ?_ GE343.out) | exact HB.out)⟩
end Go.Proofs.YtcgpbakimkhdpaaDoor.Q
