/- Part 9 of a claim's texts. -/
import Derived.Test.YtcgpbakimkhdpaaDoorPk8
import Derived.Test.YtcgpbakimkhdpaaDoorPk6
import Derived.Test.YtcgpbakimkhdpaaDoorPk1
import Derived.Test.YtcgpbakimkhdpaaDoorPk5
import Derived.Test.YtcgpbakimkhdpaaDoorPk4
import Derived.OpenShut
namespace Go.Proofs.YtcgpbakimkhdpaaDoor.Q
open Go.RowKit Go.Proofs.YtcgpbakimkhdpaaDoorW.PrintWords Go.Proofs.YtcgpbakimkhdpaaDoorW.PrintLast Go.Proofs.YtcgpbakimkhdpaaDoorW.PrintMore
attribute [local go_sem] max2_int min2_int max_two min_two max_three min_three max_four min_four
set_option linter.unusedVariables false
set_option linter.unusedSimpArgs false
set_option maxHeartbeats 8000000
set_option maxRecDepth 100000
open Go.Proofs.YtcgpbakimkhdpaaDoor.Q.H_
def evR (a0 a2 : Int) (nm : ByteArray) (x : Rp) (dn : ByteArray) (dl : Int) (l : List S61) : Bool :=
  if a0 = 0 then (if (chkD dn dl l).2 = 0 then a2 == 0 else false) else if a0 = 1 then Utf.goodD nm.data.toList else if a0 = 3 then (if x.f0 ≥ 0 then (if x.f1 ≥ 0 then decide (x.f3 ≥ 0) else false) else false) else true
def repZ (x : Rp) : Bool := !(x.f0 == 0) || (!(x.f1 == 0) || (x.f2 || (!(x.f3 == 0) || x.f4)))
def defZ (dn : ByteArray) (dl : Int) (l : List S61) : Bool := if dn.toList = [] then (if dl = 0 then decide (l.length = 0) else false) else false
def evOk (a0 a1 a2 : Int) (nm : ByteArray) (x : Rp) (dn : ByteArray) (dl : Int) (l : List S61) : Bool :=
  decide (0 ≤ a0) && (decide (a0 ≤ 10) && (decide (0 ≤ a1) && (decide (a1 ≤ 1099511627776) && (decide (0 ≤ a2) &&
  ((decide (a0 = 0) || defZ dn dl l) && ((decide (a0 = 1) || decide (nm.toList = [])) && ((decide (a0 = 3) || !repZ x) && evR a0 a2 nm x dn dl l)))))))
theorem code_empty_f (dn : ByteArray) (dl : Int) (l : List S61) : code_empty.f dn dl l = some (defZ dn dl l) := by
  unfold code_empty.f defZ
  have e : ((l.length : Int) == 0) = decide (l.length = 0) := by
    by_cases h : l.length = 0
    · rw [dt_ h, h]; rfl
    · rw [df_ h]
      exact beq_eq_false_iff_ne.mpr (by omega)
  rw [e]
  split
  · split <;> rfl
  · rfl
theorem code_good_f (a0 a1 a2 : Int) (nm : ByteArray) (x1 x2 : Int) (x3 : Bool) (x4 : Int) (x5 : Bool) (dn : ByteArray) (dl : Int) (l : List S61) {m : Nat} (hm : m < 1000000) (hn : NmS m l) (hz : dn.size ≤ m) (hs : nm.size ≤ m) :
    code_Good.f 100 a0 a1 a2 nm x1 x2 x3 x4 x5 dn dl l = some (evOk a0 a1 a2 nm ⟨x1, x2, x3, x4, x5⟩ dn dl l) := by
  have hc := def_check_f dn dl l hm hn hz 98 (by omega)
  have hg : label_Good.f nm = some (Utf.goodD nm.data.toList) := if_pos (by omega)
  have j1 : ∀ b : Bool, code_Good.j1 99 b a0 a1 a2 nm x1 x2 x3 x4 x5 dn dl l = some (!b && evR a0 a2 nm ⟨x1, x2, x3, x4, x5⟩ dn dl l) := by
    intro b
    rw [code_Good.j1]
    cases b
    · rw [if_neg (by decide), hc, hg, bs_, bs_]
      unfold evR
      dsimp only
      split
      · split <;> rfl
      split
      · rfl
      split
      · split
        · split <;> rfl
        · rfl
      · rfl
    · rw [if_pos rfl]; rfl
  have j0 : ∀ b : Bool, code_Good.j0 100 b a0 a1 a2 nm x1 x2 x3 x4 x5 dn dl l = some (!b && ((decide (a0 = 0) || defZ dn dl l) && ((decide (a0 = 1) || decide (nm.toList = [])) && ((decide (a0 = 3) || !repZ ⟨x1, x2, x3, x4, x5⟩) && evR a0 a2 nm ⟨x1, x2, x3, x4, x5⟩ dn dl l)))) := by
    intro b
    rw [code_Good.j0]
    cases b
    · rw [if_neg (by decide)]
      simp only [code_empty_f, bs_, j1]
      have er : (!(x1 == 0) || (!(x2 == 0) || (x3 || (!(x4 == 0) || x5)))) = repZ ⟨x1, x2, x3, x4, x5⟩ := rfl
      rw [er]
      generalize repZ ⟨x1, x2, x3, x4, x5⟩ = R
      generalize defZ dn dl l = D
      generalize evR a0 a2 nm ⟨x1, x2, x3, x4, x5⟩ dn dl l = V
      by_cases h0 : a0 = 0
      · subst h0
        by_cases hn : nm.toList = [] <;> cases R <;> cases D <;> cases V <;> simp [hn]
      by_cases h1 : a0 = 1
      · subst h1
        cases R <;> cases D <;> cases V <;> simp
      by_cases h3 : a0 = 3
      · subst h3
        by_cases hn : nm.toList = [] <;> cases R <;> cases D <;> cases V <;> simp [hn]
      · by_cases hn : nm.toList = [] <;> cases R <;> cases D <;> cases V <;> simp [hn, h0, h1, h3]
    · rw [if_pos rfl]; rfl
  unfold code_Good.f evOk
  rw [tick_Good_f, bs_]
  simp only [j0]
  by_cases h0 : a0 < 0
  · rw [if_pos h0, df_ (show ¬ 0 ≤ a0 by omega)]; rfl
  rw [if_neg h0, dt_ (show 0 ≤ a0 by omega)]
  by_cases h1 : a0 > 10
  · rw [if_pos h1, df_ (show ¬ a0 ≤ 10 by omega)]; rfl
  rw [if_neg h1, dt_ (show a0 ≤ 10 by omega)]
  by_cases h2 : 0 ≤ a1 ∧ a1 ≤ 1099511627776
  · rw [if_pos (dt_ h2), dt_ h2.1, dt_ h2.2]
    by_cases h3 : a2 < 0
    · rw [dt_ h3, df_ (show ¬ 0 ≤ a2 by omega)]; rfl
    · rw [df_ h3, dt_ (show 0 ≤ a2 by omega)]; rfl
  · rw [if_neg (by rw [df_ h2]; decide)]
    by_cases h4 : 0 ≤ a1
    · rw [dt_ h4, df_ (show ¬ a1 ≤ 1099511627776 from fun h => h2 ⟨h4, h⟩)]; rfl
    · rw [df_ h4]; rfl
theorem ref_good_f (a0 a1 a2 : Int) (nm : ByteArray) (x1 x2 : Int) (x3 : Bool) (x4 : Int) (x5 : Bool) (dn : ByteArray) (dl : Int) (l : List S61) {m : Nat} (hm : m < 100000) (hn : NmS m l) (hz : dn.size ≤ m) (hs : nm.size ≤ m) (k : Nat) (hk : 2 * m + 2000 ≤ k) :
    uR15_Good.f k a0 a1 a2 nm x1 x2 x3 x4 x5 dn dl l = some (evOk a0 a1 a2 nm ⟨x1, x2, x3, x4, x5⟩ dn dl l) := by
  obtain ⟨k, rfl⟩ : ∃ j, k = j + 4 := ⟨k - 4, by omega⟩
  have hc := ref_check_f dn dl l (show m < 1000000 by omega) hn hz k (by omega)
  have hg := ref_good nm (by omega) k (by omega)
  have j3 : ∀ b : Bool, (a0 ≠ 3 → a0 ≠ 0 → a0 ≠ 1 → b = false → repZ ⟨x1, x2, x3, x4, x5⟩ = false) → uR15_Good.j3 (k + 1) b a0 a1 a2 nm x1 x2 x3 x4 x5 dn dl l = some (!b && evR a0 a2 nm ⟨x1, x2, x3, x4, x5⟩ dn dl l) := by
    intro b hb
    rw [uR15_Good.j3]
    cases b
    · rw [if_neg (by decide), hc, hg, bs_, bs_]
      unfold evR
      dsimp only
      by_cases h0 : a0 = 0
      · rw [if_pos h0, if_pos h0]
        split <;> rfl
      rw [if_neg h0, if_neg h0]
      by_cases h1 : a0 = 1
      · rw [if_pos h1, if_pos h1]; rfl
      rw [if_neg h1, if_neg h1]
      by_cases h3 : a0 = 3
      · rw [if_pos h3]
        split
        · split <;> rfl
        · rfl
      · rw [if_neg h3]
        have := hb h3 h0 h1 rfl
        unfold repZ at this
        simp only [Bool.or_eq_false_iff, Bool.not_eq_false', beq_iff_eq] at this
        obtain ⟨e1, e2, _, e4, _⟩ := this
        subst e1 e2 e4
        rfl
    · rw [if_pos rfl]; rfl
  have j2 : ∀ b : Bool, uR15_Good.j2 (k + 2) b a0 a1 a2 nm x1 x2 x3 x4 x5 dn dl l = some (!b && ((decide (a0 = 3) || !repZ ⟨x1, x2, x3, x4, x5⟩) && evR a0 a2 nm ⟨x1, x2, x3, x4, x5⟩ dn dl l)) := by
    intro b
    rw [uR15_Good.j2]
    cases b
    · rw [if_neg (by decide)]
      by_cases h3 : a0 = 3
      · rw [if_pos h3, dt_ h3, j3 false (fun h => absurd h3 h)]; rfl
      · have er : (!(x1 == 0) || (!(x2 == 0) || (x3 || (!(x4 == 0) || x5)))) = repZ ⟨x1, x2, x3, x4, x5⟩ := rfl
        rw [if_neg h3, df_ h3, er, j3 _ (fun _ _ _ h => h)]; rfl
    · rw [if_pos rfl]; rfl
  have j1 : ∀ b : Bool, uR15_Good.j1 (k + 3) b a0 a1 a2 nm x1 x2 x3 x4 x5 dn dl l = some (!b && ((decide (a0 = 1) || decide (nm.toList = [])) && ((decide (a0 = 3) || !repZ ⟨x1, x2, x3, x4, x5⟩) && evR a0 a2 nm ⟨x1, x2, x3, x4, x5⟩ dn dl l))) := by
    intro b
    rw [uR15_Good.j1]
    cases b
    · rw [if_neg (by decide)]
      by_cases h1 : a0 = 1
      · rw [if_pos h1, dt_ h1, j2]; rfl
      · rw [if_neg h1, df_ h1, j2]
        by_cases hn : nm.toList = []
        · rw [dt_ hn, hn]; rfl
        · rw [df_ hn, show (nm.toList != []) = true from bne_iff_ne.mpr hn]; rfl
    · rw [if_pos rfl]; rfl
  have j0 : ∀ b : Bool, uR15_Good.j0 (k + 4) b a0 a1 a2 nm x1 x2 x3 x4 x5 dn dl l = some (!b && ((decide (a0 = 0) || defZ dn dl l) && ((decide (a0 = 1) || decide (nm.toList = [])) && ((decide (a0 = 3) || !repZ ⟨x1, x2, x3, x4, x5⟩) && evR a0 a2 nm ⟨x1, x2, x3, x4, x5⟩ dn dl l)))) := by
    intro b
    rw [uR15_Good.j0]
    cases b
    · rw [if_neg (by decide)]
      simp only [j1]
      by_cases h0 : a0 = 0
      · rw [if_pos h0, dt_ h0]; rfl
      · rw [if_neg h0, df_ h0]
        unfold defZ
        split
        · split
          · by_cases hl : l.length = 0
            · rw [dt_ hl, df_ (show ¬ (l.length : Int) > 0 by omega)]; rfl
            · rw [df_ hl, dt_ (show (l.length : Int) > 0 by omega)]; rfl
          · rfl
        · rfl
    · rw [if_pos rfl]; rfl
  unfold uR15_Good.f evOk
  simp only [j0]
  by_cases h0 : a0 < 0
  · rw [if_pos h0, df_ (show ¬ 0 ≤ a0 by omega)]; rfl
  rw [if_neg h0, dt_ (show 0 ≤ a0 by omega)]
  by_cases h1 : a0 > 10
  · rw [if_pos h1, df_ (show ¬ a0 ≤ 10 by omega)]; rfl
  rw [if_neg h1, dt_ (show a0 ≤ 10 by omega)]
  by_cases h2 : a1 < 0
  · rw [if_pos h2, df_ (show ¬ 0 ≤ a1 by omega)]; rfl
  rw [if_neg h2, dt_ (show 0 ≤ a1 by omega)]
  by_cases h4 : a1 > 1099511627776
  · rw [if_pos h4, df_ (show ¬ a1 ≤ 1099511627776 by omega)]; rfl
  rw [if_neg h4, dt_ (show a1 ≤ 1099511627776 by omega)]
  by_cases h3 : a2 < 0
  · rw [dt_ h3, df_ (show ¬ 0 ≤ a2 by omega)]; rfl
  · rw [df_ h3, dt_ (show 0 ≤ a2 by omega)]; rfl
def rEv (b : List Int) : Option (Int × Int × Int × ByteArray × Rp × ByteArray × Int × List S61 × Int × Int × Int) :=
  (fR_Num.f b 0 0 0).bind fun q0 => (fR_Num.f b q0.2.1 q0.2.2.1 q0.2.2.2).bind fun q1 => (fR_Num.f b q1.2.1 q1.2.2.1 q1.2.2.2).bind fun q2 =>
  (rKind q0.1 b q2.2.1 q2.2.2.1 q2.2.2.2).bind fun q3 => some (q0.1, q1.1, q2.1, q3)
theorem end_cut {b : List Int} {a fa fe : Int} (h : Rd b a fa fe) : ∃ y a' f' e', fR_End.f 1 b a fa fe = some (y, a', f', e') ∧ (y = true → fe = 0 ∧ a = (b.length : Int)) ∧ (y = false → e' ≠ 0) ∧ (fe = 0 → a < (b.length : Int) → y = false ∧ f' = a ∧ e' = 3) := by
  have hl := h.len; have h0 := h.a0; have h1 := h.a1
  have hk := h.ok
  have e1 : wrap64 ((b.length : Int) - a) = (b.length : Int) - a := by unfold wrap64; omega
  unfold fR_End.f
  rw [okR_f, bs_]
  dsimp only
  by_cases he : fe = 0
  · rw [dt_ he] at hk
    rw [if_pos hk, leftR_f, bs_]
    dsimp only
    rw [fR_End.j0, e1]
    by_cases hs : (b.length : Int) - a > 0
    · rw [if_pos (dt_ hs), fail_ok hk, bs_, okR_f, bs_]
      refine ⟨_, _, _, _, rfl, fun h => ?_, fun _ => ?_, fun _ _ => ?_⟩
      · exact absurd h (by unfold okR; simp)
      · show (3 : Int) ≠ 0
        decide
      · exact ⟨by unfold okR; simp, rfl, rfl⟩
    · rw [if_neg (by rw [df_ hs]; decide), okR_f, bs_]
      refine ⟨_, _, _, _, rfl, fun h => ⟨he, by omega⟩, fun h => ?_, fun _ _ => by omega⟩
      rw [hk] at h
      cases h
  · rw [df_ he] at hk
    rw [if_neg (by rw [hk]; decide), fR_End.j0, if_neg (by decide), okR_f, bs_]
    exact ⟨_, _, _, _, rfl, (fun h => by rw [hk] at h; cases h), fun _ => he, fun h => absurd h he⟩
theorem take_cut (b : List Int) (hl : b.length ≤ 100000) : ∃ a0 a1 a2 nm x1 x2 x3 x4 x5 dn dl l at_ e, code_TakeEvent.f b = some (a0, a1, a2, nm, x1, x2, x3, x4, x5, dn, dl, l, at_, e) ∧ (e = 0 → ∀ q, (b ++ q).length ≤ 100000 → rEv (b ++ q) = some (a0, a1, a2, nm, ⟨x1, x2, x3, x4, x5⟩, dn, dl, l, (b.length : Int), 0, 0)) := by
  have h0 : Rd b 0 0 0 := ⟨hl, by omega, by omega, fun _ => rfl⟩
  obtain ⟨x0, a1, f1, e1, n1, o1, z1, p1, m1⟩ := num_cut h0
  obtain ⟨y1, a2, f2, e2, n2, o2, z2, p2, m2⟩ := num_cut o1
  obtain ⟨y2, a3, f3, e3, n3, o3, z3, p3, m3⟩ := num_cut o2
  obtain ⟨nm, x, dn, dl, l, a4, f4, e4, n4, o4, z4, ⟨s1, s2, s3, s4⟩, m4⟩ := kind_cut x0 o3
  obtain ⟨y, a5, f5, e5, n5, w1, w2, w3⟩ := end_cut o4
  obtain ⟨x1, x2, x3, x4, x5⟩ := x
  unfold code_TakeEvent.f
  rw [if_pos (by omega), n1, bs_]
  dsimp only
  by_cases hx : x0 > 10
  · rw [if_pos hx]
    exact ⟨_, _, _, _, _, _, _, _, _, _, _, _, _, _, rfl, fun h => absurd h (by decide)⟩
  · rw [if_neg hx, n2, bs_]
    dsimp only
    rw [n3, bs_]
    dsimp only
    rw [n4, bs_]
    dsimp only
    rw [n5, bs_]
    dsimp only
    cases y
    · rw [if_neg (by decide)]
      exact ⟨_, _, _, _, _, _, _, _, _, _, _, _, _, _, rfl, fun h => absurd h (w2 rfl)⟩
    · rw [if_pos rfl, code_good_f x0 y1 y2 nm x1 x2 x3 x4 x5 dn dl l (m := 256) (by omega) s3 s2 s1, bs_]
      split
      · refine ⟨_, _, _, _, _, _, _, _, _, _, _, _, _, _, rfl, fun _ q hq => ?_⟩
        obtain ⟨t4, ha⟩ := w1 rfl
        have t3 : e3 = 0 := Classical.byContradiction fun h => z4 h t4
        have t2 : e2 = 0 := Classical.byContradiction fun h => z3 h t3
        have t1 : e1 = 0 := Classical.byContradiction fun h => z2 h t2
        have tf := o4.e0 t4
        unfold rEv
        rw [m1 t1 q hq, bs_]
        dsimp only
        rw [m2 t2 q hq, bs_]
        dsimp only
        rw [m3 t3 q hq, bs_]
        dsimp only
        rw [m4 t4 q hq, bs_, ha, t4, tf]
      · exact ⟨_, _, _, _, _, _, _, _, _, _, _, _, _, _, rfl, fun h => absurd h (by decide)⟩
theorem num_bkC {b p q : List Int} {m : Int} (hb : b = p ++ (nbs (clampN m) 8 ++ q)) (hl : b.length ≤ 100000) : fR_Num.f b (p.length : Int) 0 0 = some (clampN m, ((p ++ nbs (clampN m) 8).length : Int), 0, 0) := by
  obtain ⟨h0, h1⟩ := clampN_range m
  have e := clampN_id h0 h1
  have := num_bk (m := clampN m) (p := p) (q := q) h0 h1 (by rw [e]; exact hb) hl
  rw [e] at this
  exact this
theorem flag_bk {b p q : List Int} {y : Bool} (hb : b = p ++ ([flagB y] ++ q)) (hl : b.length ≤ 100000) : fR_Flag.f b (p.length : Int) 0 0 = some (y, ((p ++ [flagB y]).length : Int), 0, 0) := by
  rw [← List.append_assoc] at hb
  subst hb
  rw [flag_back p q y hl, List.length_append]
  rfl
def clampR (x : Rp) : Rp := ⟨clampN x.f0, clampN x.f1, x.f2, clampN x.f3, x.f4⟩
theorem reply_bk {b p q : List Int} {x : Rp} (hb : b = p ++ (replyW x ++ q)) (hl : b.length ≤ 100000) : rReply b (p.length : Int) 0 0 = some (clampR x, ((p ++ replyW x).length : Int), 0, 0) := by
  obtain ⟨x0, x1, x2, x3, x4⟩ := x
  have e : replyW ⟨x0, x1, x2, x3, x4⟩ = nbs (clampN x0) 8 ++ nbs (clampN x1) 8 ++ [flagB x2] ++ nbs (clampN x3) 8 ++ [flagB x4] := by
    simp only [replyW, encN, List.flatMap_cons, List.flatMap_nil, List.append_nil, List.append_assoc]
  rw [e] at hb ⊢
  unfold rReply
  rw [num_bkC (m := x0) (q := nbs (clampN x1) 8 ++ [flagB x2] ++ nbs (clampN x3) 8 ++ [flagB x4] ++ q) (by rw [hb]; simp only [List.append_assoc]) hl, bs_]
  dsimp only
  rw [num_bkC (m := x1) (q := [flagB x2] ++ nbs (clampN x3) 8 ++ [flagB x4] ++ q) (by rw [hb]; simp only [List.append_assoc]) hl, bs_]
  dsimp only
  rw [flag_bk (y := x2) (q := nbs (clampN x3) 8 ++ [flagB x4] ++ q) (by rw [hb]; simp only [List.append_assoc]) hl, bs_]
  dsimp only
  rw [num_bkC (m := x3) (q := [flagB x4] ++ q) (by rw [hb]; simp only [List.append_assoc]) hl, bs_]
  dsimp only
  rw [flag_bk (y := x4) (q := q) (by rw [hb]; simp only [List.append_assoc]) hl, bs_]
  simp only [List.append_assoc]
  rfl
theorem nil_of_toList {s : ByteArray} (h : s.toList = []) : s = (⟨#[]⟩ : ByteArray) := by
  rw [ByteArray.toList_eq] at h
  obtain ⟨d⟩ := s
  simp at h
  subst h
  rfl
theorem clampN_zero : clampN 0 = 0 := by decide
structure EvF (a0 a1 a2 : Int) (nm : ByteArray) (x : Rp) (dn : ByteArray) (dl : Int) (l : List S61) : Prop where
  k : 0 ≤ a0 ∧ a0 ≤ 10
  n : 0 ≤ a1 ∧ a1 ≤ 1099511627776
  s : 0 ≤ a2
  d : a0 ≠ 0 → dn = ⟨#[]⟩ ∧ dl = 0 ∧ l = []
  t : a0 ≠ 1 → nm = ⟨#[]⟩
  r : a0 ≠ 3 → x = ⟨0, 0, false, 0, false⟩
  e : evR a0 a2 nm x dn dl l = true
theorem evOk_f {a0 a1 a2 : Int} {nm : ByteArray} {x : Rp} {dn : ByteArray} {dl : Int} {l : List S61} (h : evOk a0 a1 a2 nm x dn dl l = true) : EvF a0 a1 a2 nm x dn dl l := by
  unfold evOk at h
  simp only [Bool.and_eq_true, decide_eq_true_eq, Bool.or_eq_true, Bool.not_eq_true'] at h
  obtain ⟨h1, h2, h3, h4, h5, h6, h7, h8, h9⟩ := h
  refine ⟨⟨h1, h2⟩, ⟨h3, h4⟩, h5, fun h0 => ?_, fun h0 => ?_, fun h0 => ?_, h9⟩
  · have hd := h6.resolve_left h0
    unfold defZ at hd
    split at hd
    · rename_i q1
      split at hd
      · rename_i q2
        exact ⟨nil_of_toList q1, q2, List.eq_nil_of_length_eq_zero (of_decide_eq_true hd)⟩
      · cases hd
    · cases hd
  · exact nil_of_toList (h7.resolve_left h0)
  · have hr := h8.resolve_left h0
    unfold repZ at hr
    simp only [Bool.or_eq_false_iff, Bool.not_eq_false', beq_iff_eq] at hr
    obtain ⟨x0, x1, x2, x3, x4⟩ := x
    obtain ⟨e1, e2, e3, e4, e5⟩ := hr
    dsimp only at e1 e2 e3 e4 e5
    subst e1 e2 e3 e4 e5
    rfl
theorem ev_def {a2 : Int} {nm : ByteArray} {x : Rp} {dn : ByteArray} {dl : Int} {l : List S61} (h : evR 0 a2 nm x dn dl l = true) : (chkD dn dl l).2 = 0 ∧ a2 = 0 := by
  unfold evR at h
  rw [if_pos rfl] at h
  split at h
  · rename_i h1
    exact ⟨h1, beq_iff_eq.1 h⟩
  · cases h
theorem kind_bk {b p q : List Int} {a0 a1 a2 : Int} {nm : ByteArray} {x : Rp} {dn : ByteArray} {dl : Int} {l : List S61} (h : EvF a0 a1 a2 nm x dn dl l) (hn : nm.size ≤ 256) (hd : dn.size ≤ 256) (hs : NmS 256 l) (hb : b = p ++ (evT a0 nm x dn dl l ++ q)) (hl : b.length ≤ 100000) :
    rKind a0 b (p.length : Int) 0 0 = some (nm, clampR x, dn, dl, l, ((p ++ evT a0 nm x dn dl l).length : Int), 0, 0) := by
  unfold rKind
  have hz : clampR ⟨0, 0, false, 0, false⟩ = rp0 := by unfold clampR rp0; rw [clampN_zero]
  by_cases h0 : a0 = 0
  · subst h0
    have he : evT 0 nm x dn dl l = defW dn dl l := if_pos rfl
    rw [he] at hb ⊢
    obtain ⟨hc, _⟩ := ev_def h.e
    obtain ⟨q1, q2, q3⟩ := chkD_n hc
    rw [if_pos rfl, def_bk hd q1 q2 (fun x hx => ⟨q3 x hx, (hs x hx).1, (hs x hx).2⟩) hb hl, bs_, h.t (by decide), h.r (by decide), hz]
  rw [if_neg h0]
  obtain ⟨d1, d2, d3⟩ := h.d h0
  by_cases h1 : a0 = 1
  · subst h1
    have he : evT 1 nm x dn dl l = nbs (clampN nm.size) 8 ++ bytesOf nm := rfl
    rw [he] at hb ⊢
    rw [if_pos rfl, text_bk (s := nm) (q := q) (most := 256) (by omega) (by rw [hb]; simp only [List.append_assoc]) hl, bs_, h.r (by decide), hz, d1, d2, d3]
    simp only [List.append_assoc]
  rw [if_neg h1]
  by_cases h3 : a0 = 3
  · subst h3
    have he : evT 3 nm x dn dl l = replyW x := rfl
    rw [he] at hb ⊢
    rw [if_pos rfl, reply_bk hb hl, bs_, h.t (by decide), d1, d2, d3]
  · have he : evT a0 nm x dn dl l = [] := by unfold evT; rw [if_neg h0, if_neg h1, if_neg h3]
    rw [he]
    rw [if_neg h3, List.append_nil, h.t h1, h.r h3, hz, d1, d2, d3]
theorem ev_bk {q : List Int} {a0 a1 a2 : Int} {nm : ByteArray} {x : Rp} {dn : ByteArray} {dl : Int} {l : List S61} (h : EvF a0 a1 a2 nm x dn dl l) (hn : nm.size ≤ 256) (hd : dn.size ≤ 256) (hs : NmS 256 l) (hl : (evW a0 a1 a2 nm x dn dl l ++ q).length ≤ 100000) :
    rEv (evW a0 a1 a2 nm x dn dl l ++ q) = some (a0, a1, clampN a2, nm, clampR x, dn, dl, l, ((evW a0 a1 a2 nm x dn dl l).length : Int), 0, 0) := by
  obtain ⟨k0, k1⟩ := h.k
  obtain ⟨n0, n1⟩ := h.n
  have c0 : clampN a0 = a0 := clampN_id k0 (by omega)
  have c1 : clampN a1 = a1 := clampN_id n0 (by omega)
  have e : evW a0 a1 a2 nm x dn dl l = [] ++ nbs (clampN a0) 8 ++ nbs (clampN a1) 8 ++ nbs (clampN a2) 8 ++ evT a0 nm x dn dl l := by
    simp only [evW, encN, List.flatMap_cons, List.flatMap_nil, List.append_nil, List.append_assoc, List.nil_append]
  generalize hb : evW a0 a1 a2 nm x dn dl l ++ q = b at *
  have hb2 : b = [] ++ nbs (clampN a0) 8 ++ nbs (clampN a1) 8 ++ nbs (clampN a2) 8 ++ (evT a0 nm x dn dl l ++ q) := by rw [← hb, e]; simp only [List.append_assoc]
  unfold rEv
  have r0 := num_bkC (p := []) (m := a0) (q := nbs (clampN a1) 8 ++ nbs (clampN a2) 8 ++ (evT a0 nm x dn dl l ++ q)) (by rw [hb2]; simp only [List.append_assoc, List.nil_append]) hl
  rw [show fR_Num.f b 0 0 0 = _ from r0, bs_]
  dsimp only
  rw [num_bkC (m := a1) (q := nbs (clampN a2) 8 ++ (evT a0 nm x dn dl l ++ q)) (by rw [hb2]; simp only [List.append_assoc]) hl, bs_]
  dsimp only
  rw [num_bkC (m := a2) (q := evT a0 nm x dn dl l ++ q) (by rw [hb2]; simp only [List.append_assoc]) hl, bs_]
  dsimp only
  have rk : ∀ z, z = a0 → rKind z b (([] ++ nbs (clampN a0) 8 ++ nbs (clampN a1) 8 ++ nbs (clampN a2) 8 : List Int).length : Int) 0 0 = some (nm, clampR x, dn, dl, l, (([] ++ nbs (clampN a0) 8 ++ nbs (clampN a1) 8 ++ nbs (clampN a2) 8 ++ evT a0 nm x dn dl l : List Int).length : Int), 0, 0) := fun z hz => by
    rw [hz]
    exact kind_bk h hn hd hs hb2 hl
  rw [rk _ c0, bs_, c1, e, c0, c1]
theorem cut_bad {a0 a1 a2 : Int} {nm : ByteArray} {x : Rp} {dn : ByteArray} {dl : Int} {l : List S61} (h : EvF a0 a1 a2 nm x dn dl l) (hn : nm.size ≤ 256) (hd : dn.size ≤ 256) (hs : NmS 256 l) (hl : (evW a0 a1 a2 nm x dn dl l).length ≤ 100000) (n : Nat) (hnl : n < (evW a0 a1 a2 nm x dn dl l).length) :
    ∃ a0' a1' a2' nm' x1 x2 x3 x4 x5 dn' dl' l' at_ e, code_TakeEvent.f ((evW a0 a1 a2 nm x dn dl l).take n) = some (a0', a1', a2', nm', x1, x2, x3, x4, x5, dn', dl', l', at_, e) ∧ e ≠ 0 := by
  have hlt : ((evW a0 a1 a2 nm x dn dl l).take n).length = n := by rw [List.length_take]; omega
  obtain ⟨b0, b1, b2, nm', x1, x2, x3, x4, x5, dn', dl', l', at_, e, h1, h2⟩ := take_cut ((evW a0 a1 a2 nm x dn dl l).take n) (by omega)
  refine ⟨_, _, _, _, _, _, _, _, _, _, _, _, _, _, h1, fun he => ?_⟩
  have h3 := h2 he ((evW a0 a1 a2 nm x dn dl l).drop n) (by rw [List.take_append_drop]; exact hl)
  rw [List.take_append_drop] at h3
  have h4 := ev_bk (q := []) h hn hd hs (by rw [List.append_nil]; exact hl)
  rw [List.append_nil, h3] at h4
  simp only [Option.some.injEq, Prod.mk.injEq] at h4
  omega
theorem more_bad {a0 a1 a2 : Int} {nm : ByteArray} {x : Rp} {dn : ByteArray} {dl : Int} {l : List S61} (h : EvF a0 a1 a2 nm x dn dl l) (hn : nm.size ≤ 256) (hd : dn.size ≤ 256) (hs : NmS 256 l) (c : Int) (hl : (evW a0 a1 a2 nm x dn dl l).length < 100000) :
    ∃ a0' a1' a2' nm' x1 x2 x3 x4 x5 dn' dl' l', code_TakeEvent.f (evW a0 a1 a2 nm x dn dl l ++ [c]) = some (a0', a1', a2', nm', x1, x2, x3, x4, x5, dn', dl', l', ((evW a0 a1 a2 nm x dn dl l).length : Int), 3) := by
  have hl2 : (evW a0 a1 a2 nm x dn dl l ++ [c]).length ≤ 100000 := by rw [List.length_append, List.length_singleton]; omega
  have h4 := ev_bk (q := [c]) h hn hd hs hl2
  have hk := h.k
  unfold rEv at h4
  obtain ⟨⟨q0, p0, f0, e0⟩, r0, h4⟩ := ob_ h4
  obtain ⟨⟨q1, p1, f1, e1⟩, r1, h4⟩ := ob_ h4
  obtain ⟨⟨q2, p2, f2, e2⟩, r2, h4⟩ := ob_ h4
  obtain ⟨⟨q3, q4, q5, q6, q7, p3, f3, e3⟩, r3, h4⟩ := ob_ h4
  simp only [Option.some.injEq, Prod.mk.injEq] at h4
  obtain ⟨rfl, rfl, rfl, rfl, rfl, rfl, rfl, rfl, rfl, rfl, rfl⟩ := h4
  dsimp only at r0 r1 r2 r3
  have hrd : Rd (evW q0 q1 a2 q3 x q5 q6 q7 ++ [c]) ((evW q0 q1 a2 q3 x q5 q6 q7).length : Int) 0 0 := ⟨hl2, by omega, by rw [List.length_append]; omega, fun _ => rfl⟩
  obtain ⟨y, a5, f5, e5, n5, _, _, w3⟩ := end_cut hrd
  obtain ⟨rfl, rfl, rfl⟩ := w3 rfl (by rw [List.length_append, List.length_singleton]; omega)
  unfold code_TakeEvent.f
  rw [if_pos (by omega), r0, bs_]
  dsimp only
  rw [if_neg (by omega), r1, bs_]
  dsimp only
  rw [r2, bs_]
  dsimp only
  rw [r3, bs_]
  dsimp only
  rw [n5, bs_]
  dsimp only
  rw [if_neg (by decide)]
  exact ⟨_, _, _, _, _, _, _, _, _, _, _, _, rfl⟩
theorem stepI_n {x : S61} (h : StepN x) (h0 : x.f0.size ≤ 100000) (h1 : x.f1.size ≤ 100000) : StepI x := by
  obtain ⟨a, ⟨b0, b1, b2, b3⟩, ⟨c0, c1, c2, c3⟩, d⟩ := h
  refine ⟨by omega, by omega, ⟨by omega, by omega⟩, ⟨⟨by omega, by omega⟩, ⟨by omega, by omega⟩, ⟨by omega, by omega⟩, ⟨by omega, by omega⟩⟩, ⟨⟨by omega, by omega⟩, ⟨by omega, by omega⟩, ⟨by omega, by omega⟩, ⟨by omega, by omega⟩⟩, ⟨by omega, by omega⟩⟩
theorem stepsW_le {l : List S61} {m : Nat} (h : NmS m l) : (stepsW l).length ≤ (96 + 2 * m) * l.length := by
  induction l with
  | nil => simp [stepsW]
  | cons x l ih =>
    have e : stepsW (x :: l) = stepW x ++ stepsW l := by simp only [stepsW, List.flatMap_cons]
    have hx := h x (by simp)
    have hi := ih (fun y hy => h y (by simp [hy]))
    rw [e, List.length_append, stepW_len, List.length_cons, Nat.mul_succ]
    omega
theorem defW_len (n : ByteArray) (dl : Int) (l : List S61) : (defW n dl l).length = 24 + n.size + (stepsW l).length := by
  simp [defW, nbs_len, encN_len, bytesOf_length]
  omega
theorem evW_len {a0 a1 a2 : Int} {nm : ByteArray} {x : Rp} {dn : ByteArray} {dl : Int} {l : List S61} (hn : nm.size ≤ 256) (hd : dn.size ≤ 256) (hs : NmS 256 l) (hl : l.length ≤ 40) : 24 ≤ (evW a0 a1 a2 nm x dn dl l).length ∧ (evW a0 a1 a2 nm x dn dl l).length ≤ 30000 := by
  have h1 := defW_len dn dl l
  have h2 := stepsW_le hs
  have h3 := replyW_len x
  have h4 := bytesOf_length nm
  have h5 : (96 + 2 * 256) * l.length ≤ 24320 := by omega
  have h6 : (evT a0 nm x dn dl l).length ≤ 24700 := by
    unfold evT
    split
    · omega
    split
    · rw [List.length_append, nbs_len]; omega
    split
    · omega
    · simp
  have h7 : (evW a0 a1 a2 nm x dn dl l).length = 24 + (evT a0 nm x dn dl l).length := by unfold evW; rw [List.length_append]; simp [encN_len]
  omega
theorem put_ev {a0 a1 a2 : Int} {nm : ByteArray} {x1 x2 : Int} {x3 : Bool} {x4 : Int} {x5 : Bool} {dn : ByteArray} {dl : Int} {l : List S61} (h : evOk a0 a1 a2 nm ⟨x1, x2, x3, x4, x5⟩ dn dl l = true) (hn : nm.size ≤ 256) (hd : dn.size ≤ 256) (hs : NmS 256 l) (hl : l.length ≤ 40) (i2 : I64_ a2) (r1 : I64_ x1) (r2 : I64_ x2) (r4 : I64_ x4) :
    code_PutEvent.f a0 a1 a2 nm x1 x2 x3 x4 x5 dn dl l = some (evW a0 a1 a2 nm ⟨x1, x2, x3, x4, x5⟩ dn dl l, 0) := by
  have hf := evOk_f h
  have hk := hf.k
  have hq := hf.n
  unfold code_PutEvent.f
  rw [code_good_f a0 a1 a2 nm x1 x2 x3 x4 x5 dn dl l (m := 256) (by omega) hs hd hn, bs_, if_pos h, if_pos]
  have h1 := defW_len dn dl l
  have h2 := stepsW_le hs
  have h5 : (96 + 2 * 256) * l.length ≤ 24320 := by omega
  have hdl : I64_ dl ∧ ∀ s ∈ l, StepI s := by
    by_cases h0 : a0 = 0
    · subst h0
      obtain ⟨q1, q2, q3⟩ := chkD_n (ev_def hf.e).1
      exact ⟨⟨by omega, by omega⟩, fun s hs' => stepI_n (q3 s hs') (by have := (hs s hs').1; omega) (by have := (hs s hs').2; omega)⟩
    · obtain ⟨d1, d2, d3⟩ := hf.d h0
      subst d2 d3
      exact ⟨⟨by omega, by omega⟩, fun s hs' => absurd hs' (by simp)⟩
  exact ⟨⟨⟨by omega, by omega⟩, ⟨by omega, by omega⟩, i2⟩, by omega, ⟨r1, r2, r4⟩, hdl.1, by omega, hdl.2, by omega⟩
def uL15_awake.l0 : Nat → List Int → Int → Option (Bool)
 | 0, _, _ => none
 | k + 1, x1, x2 => if x2 < (x1.length : Int) then (if 0 ≤ x2 then (if (rd x1 x2) = 0 then (uL15_awake.l0 k x1 (wrap64 (x2 + 1))) else (some false)) else (none)) else (some ((x1.length : Int) == 65))
def uL15_awake.f (k : Nat)  : Option (Bool) := (code_PutSaga.f 0 (⟨#[]⟩ : ByteArray) 0 0 0 0 false 0 0).bind fun t102 => (uL15_awake.l0 k t102 0)
theorem uL15_awake.calls (k : Nat)  (r : Bool) (w : World) (h : uL15_awake.f k  = some r) :
 Calls Tryd.prog 6 #[] w fun e w' => e = .returned (.bool r) ∧ Below w.heap.size w w' := by
 have hu57 := Tryd.underlying57
 have HB := ak_ (Below.refl w.heap.size w)
 have H : ((code_PutSaga.f 0 (⟨#[]⟩ : ByteArray) 0 0 0 0 false 0 0).bind fun t102 => (uL15_awake.l0 k t102 0)) = some r := h
 clear h
 replace H := ob_ H
 obtain ⟨t102, A10, H⟩ := H
 replace H : (uL15_awake.l0 k t102 0) = some r := H
 have A1 := ak_ A10
 clear A10
 have H' := ak_ H
 clear H
 go_enter Tryd.func6, Tryd.ntmps6
 go_wp2_with (first | ((with_reducible refine gate_callee (f := 21) rfl ?_); refine goesL_ (some 4) rfl rfl Tryd.func21 (by kernel_rfl) rfl #[.agg #[.int .i64 0, .string (⟨#[]⟩ : ByteArray), .int .i64 0, .int .i64 0, .int .i64 0, .int .i64 0, .bool false, .int .i64 0, .int .i64 0]] rfl (by (try simp only [mt_, mc_, mn_]); first | done | rfl) ?_; (with_reducible refine (code_PutSaga.calls 0 (⟨#[]⟩ : ByteArray) 0 0 0 0 false 0 0 t102 _ A1.out).mono ?_); rintro e w2 ⟨v103, rfl, ho0, hb⟩; refine ⟨_, rfl, ?_⟩; have n0_ := ak_ (Kd.R_lower ho0 (below_size (by with_reducible repeat first | exact HB.out | apply below_alloc | apply pw_below_drewN | apply below_drew1))); have n1_ := ak_ (below_step (by with_reducible repeat first | exact HB.out | apply below_alloc | apply pw_below_drewN | apply below_drew1) hb); clear HB; have HO104 := n0_; have HB := n1_; clear n0_ n1_))
 go_loopg [2] k (fun kq v2 w' => ∃ (x2_1 : Int), v2 = .int .i64 x2_1 ∧ Aside0 (uL15_awake.l0 kq t102 x2_1 = some r) ∧ Aside0 (kq ≤ k) ∧ Aside0 (Kd.R (Kd.int .u8) 5 w' w.heap.size (fun _ => True) v103 t102) ∧ Aside0 (Below w.heap.size w w'))
 case atStart => exact ⟨(0), (by first | rfl | simp [*]), H', ⟨Nat.le_refl _⟩, ⟨by (with_reducible repeat (first | apply Kd.R_alloc | apply Kd.R_drewN | apply Kd.R_drew)); exact HO104.out⟩, ⟨by repeat (first | (with_reducible first | exact HB.out | apply below_alloc | apply pw_below_drewN | apply below_drew1) | exact HB.out)⟩⟩
 case round =>
  clear H'
  try clear c2
  try clear p2
  obtain ⟨x2_1, rfl, HA, HK1, HO_1, HB⟩ := hrel
  cases gk with
  | zero => exact absurd HA.out (by simp [uL15_awake.l0])
  | succ k1 =>
   have H := HA.out
   clear HA
   simp only [uL15_awake.l0] at H
   have HF3 := ak_ H
   clear H
   obtain ⟨Ao4, co4, eo4⟩ := Kd.R_slice HO_1.out
   subst eo4
   go_upto_if 8 with (fail)
   have H := HF3.out
   clear HF3
   by_cases c5 : x2_1 < (t102.length : Int)
   · rw [if_pos c5] at H
     have c5b0 : decide (x2_1 < (t102.length : Int)) = true := dt_ c5
     clear c5
     (first | rw [c5b0] | (simp only [i64_w, i32_w]; rw [c5b0]) | skip)
     by_cases c6 : 0 ≤ x2_1
     · rw [if_pos c6] at H
       have c6b0 : decide (0 ≤ x2_1) = true := dt_ c6
       clear c6
       have HF7 := ak_ H
       clear H
       have p105 : 0 ≤ (x2_1 : Int) := of_decide_eq_true (by first | (with_reducible assumption) | assumption)
       have q105 : x2_1 < (t102.length : Int) := of_decide_eq_true (by first | (with_reducible assumption) | assumption)
       obtain ⟨ad105, e105, hx105_0⟩ := Kd.at_int (Kd.R_reads' HO_1.out).2.2 x2_1 p105 q105
       cases e105
       replace p105 := eq_true p105
       replace q105 := eq_true q105
       go_upto_if 15 with (fail)
       have H := HF7.out
       clear HF7
       by_cases c8 : (rd t102 x2_1) = 0
       · rw [if_pos c8] at H
         have c8b0 : ((rd t102 x2_1) == 0) = true := beq_iff_eq.mpr c8
         have c8b1 : ((rd t102 x2_1) != 0) = false := bne_eq_false_iff_eq.mpr c8
         clear c8
         (first | rw [c8b0] | (simp only [i64_w, i32_w]; rw [c8b0]) | skip)
         have H' := ak_ H
         clear H
         go_wp2
         go_roundg k1
         case measure => have := HK1.out; omega
         case rel => exact ⟨(wrap64 (x2_1 + 1)), (by first | rfl | simp [*]), H', ⟨by have := HK1.out; omega⟩, ⟨by (with_reducible repeat (first | apply Kd.R_alloc | apply Kd.R_drewN | apply Kd.R_drew)); exact HO_1.out⟩, ⟨by repeat (first | (with_reducible first | exact HB.out | apply below_alloc | apply pw_below_drewN | apply below_drew1) | exact HB.out)⟩⟩
       · rw [if_neg c8] at H
         have c8b0 : ((rd t102 x2_1) == 0) = false := beq_eq_false_iff_ne.mpr c8
         have c8b1 : ((rd t102 x2_1) != 0) = true := bne_iff_ne.mpr c8
         (first | rw [c8b0] | (simp only [i64_w, i32_w]; rw [c8b0]) | skip)
         obtain rfl := Option.some.inj H
         go_wp2
         go_ret
         exact ⟨by first | rfl | simp [*], by repeat (first | (with_reducible first | exact HB.out | apply below_alloc | apply pw_below_drewN | apply below_drew1) | exact HB.out)⟩
     · rw [if_neg c6] at H
       exact absurd H (by simp)
   · rw [if_neg c5] at H
     have c5b0 : decide (x2_1 < (t102.length : Int)) = false := df_ c5
     clear c5
     (first | rw [c5b0] | (simp only [i64_w, i32_w]; rw [c5b0]) | skip)
     obtain rfl := Option.some.inj H
     go_wp2
     go_ret
     exact ⟨by first | rfl | simp [*], by repeat (first | (with_reducible first | exact HB.out | apply below_alloc | apply pw_below_drewN | apply below_drew1) | exact HB.out)⟩
mutual
def uL13_Small.j0 : Nat → Bool → ByteArray → Int → List (S61) → Option (Int)
 | 0, _, _, _, _ => none
 | k + 1, x13, x107000, x107001, x107002 => if x13 = true then (some 1) else (uL13_Small.l0 k 0 x107000 x107001 x107002)
def uL13_Small.l0 : Nat → Int → ByteArray → Int → List (S61) → Option (Int)
 | 0, _, _, _, _ => none
 | k + 1, x3, x107000, x107001, x107002 => if x3 < (x107002.length : Int) then (if 0 ≤ x3 then (if (((rT x107002 x3).f0).size : Int) > 100 then (some 2) else (if (((rT x107002 x3).f1).size : Int) > 100 then (some 2) else (uL13_Small.l0 k (wrap64 (x3 + 1)) x107000 x107001 x107002))) else (none)) else (some 0)
end
def uL13_Small.f (k : Nat) (a0_0 : ByteArray) (a0_1 : Int) (l0_2 : List (S61)) : Option (Int) := if (l0_2.length : Int) > 40 then (uL13_Small.j0 k true a0_0 a0_1 l0_2) else (uL13_Small.j0 k (decide ((a0_0.size : Int) > 100)) a0_0 a0_1 l0_2)
theorem uL13_Small.calls (k : Nat) (a0_0 : ByteArray) (a0_1 : Int) (A0_2 : Option Addr) (c0_2 : Nat) (l0_2 : List (S61)) (r : Int) (w : World) (hr0_2 : Kd.C k61 w A0_2 l0_2.length l0_2) (hc0_2 : l0_2.length ≤ c0_2) (h : uL13_Small.f k a0_0 a0_1 l0_2 = some r) :
 Calls Tryd.prog 7 #[.agg #[.string a0_0, .int .i64 a0_1, .slice A0_2 l0_2.length c0_2]] w fun e w' => e = .returned (.int .i64 r) ∧ Below w.heap.size w w' := by
 have hu24 := Tryd.underlying24
 have HR0_2 := ak_ hr0_2
 have HC0_2 := ak_ hc0_2
 clear hr0_2 hc0_2
 have HB := ak_ (Below.refl w.heap.size w)
 have H : (if (l0_2.length : Int) > 40 then (uL13_Small.j0 k true a0_0 a0_1 l0_2) else (uL13_Small.j0 k (decide ((a0_0.size : Int) > 100)) a0_0 a0_1 l0_2)) = some r := h
 clear h
 have HC2 := ak_ H
 clear H
 go_enter Tryd.func7, Tryd.ntmps7
 go_upto_region 1 with (first | ((with_reducible refine gate_dst (N := 1) rfl ?_); (try (refine gate_guard (by rfl) ?_; dsimp only)); refine box_event ?hg (N := 1) ?hd (cs := #[.string a0_0, .int .i64 a0_1, .slice A0_2 l0_2.length c0_2]) (t := 24) ?hr ?_; (case hd | hg => rfl); (case hr => first | (go_simp; done) | (go_simp; rfl)); intro gb106 hg w3 hbox hb; have n0_ := ak_ (ps (by with_reducible repeat first | exact HB.out | apply pa | apply pd | apply pe) hb); have n1_ := ak_ (hbox); have n2_ := ak_ ((by rw [hg]; exact (below_size (by with_reducible repeat first | exact HB.out | apply pa | apply pd | apply pe)) : w.heap.size ≤ gb106)); have n3_ := ak_ ((by rw [hg]; exact (below_size (by with_reducible repeat first | exact HB.out | apply pa | apply pd | apply pe)) : w.heap.size ≤ gb106)); clear HB; have HB := n0_; have BK106 := n1_; have GW106 := n2_; have GE106 := n3_; clear n0_ n1_ n2_ n3_ hb hbox hg))
 (try simp only [Act.put, sa_, sz_, ss_])
 go_cut [13] (fun v13 wc => ∃ (kq : Nat) (x13_1 : Bool), v13 = .bool x13_1 ∧ Aside0 (uL13_Small.j0 kq x13_1 a0_0 a0_1 l0_2 = some r) ∧ Aside0 (kq ≤ k) ∧ Aside0 (wc.heap[gb106]? = some (.cells #[.string a0_0, .int .i64 a0_1, (.slice A0_2 l0_2.length c0_2)] 24 (0, 0))) ∧ Aside0 (Below w.heap.size w wc))
 case first =>
  have H := HC2.out
  clear HC2
  by_cases c4 : (l0_2.length : Int) > 40
  · rw [if_pos c4] at H
    have c4b0 : decide (40 < (l0_2.length : Int)) = true := dt_ c4
    have c4b1 : decide (40 < l0_2.length) = true := dt_ (by omega)
    clear c4
    (first | rw [c4b0] | (simp only [i64_w, i32_w]; rw [c4b0]) | skip)
    have H' := ak_ H
    clear H
    have hcz5_0 : w3.cell? ⟨gb106, 0, none⟩ = some (.string a0_0) := (zc BK106.out 0).trans rfl
    have hcz5_1 : w3.cell? ⟨gb106, 1, none⟩ = some (.int .i64 a0_1) := (zc BK106.out 1).trans rfl
    have hcz5_2 : w3.cell? ⟨gb106, 2, none⟩ = some (.slice A0_2 l0_2.length c0_2) := (zc BK106.out 2).trans rfl
    have hfz5_0 := zf BK106.out 0
    have hfz5_1 := zf BK106.out 1
    have hfz5_2 := zf BK106.out 2
    go_wp2
    go_meet
    case rel => exact ⟨_, (true), (by first | rfl | simp [*]), H', ⟨by first | omega | exact Nat.le_refl _⟩, ⟨by (with_reducible repeat (first | apply zn | apply zd | apply za)); exact BK106.out⟩, ⟨by repeat (first | (with_reducible first | exact HB.out | apply pa | apply pd | apply pe | refine zs ?_ GE106.out) | exact HB.out)⟩⟩
  rw [if_neg c4] at H
  have c4b0 : decide (40 < (l0_2.length : Int)) = false := df_ c4
  have c4b1 : decide (40 < l0_2.length) = false := df_ (by omega)
  clear c4
  (first | rw [c4b0] | (simp only [i64_w, i32_w]; rw [c4b0]) | skip)
  have H' := ak_ H
  clear H
  have hcz6_0 : w3.cell? ⟨gb106, 0, none⟩ = some (.string a0_0) := (zc BK106.out 0).trans rfl
  have hcz6_1 : w3.cell? ⟨gb106, 1, none⟩ = some (.int .i64 a0_1) := (zc BK106.out 1).trans rfl
  have hcz6_2 : w3.cell? ⟨gb106, 2, none⟩ = some (.slice A0_2 l0_2.length c0_2) := (zc BK106.out 2).trans rfl
  have hfz6_0 := zf BK106.out 0
  have hfz6_1 := zf BK106.out 1
  have hfz6_2 := zf BK106.out 2
  go_wp2
  go_meet
  case rel => exact ⟨_, (decide ((a0_0.size : Int) > 100)), (by first | rfl | simp [*]), H', ⟨by first | omega | exact Nat.le_refl _⟩, ⟨by (with_reducible repeat (first | apply zn | apply zd | apply za)); exact BK106.out⟩, ⟨by repeat (first | (with_reducible first | exact HB.out | apply pa | apply pd | apply pe | refine zs ?_ GE106.out) | exact HB.out)⟩⟩
 case rest =>
  clear HC2
  try clear p2
  try clear c4
  try clear c4b0
  try clear c4b1
  try clear hcz5_0
  try clear hcz5_1
  try clear hcz5_2
  try clear hcz6_0
  try clear hcz6_1
  try clear hcz6_2
  try clear hfz5_0
  try clear hfz5_1
  try clear hfz5_2
  try clear hfz6_0
  try clear hfz6_1
  try clear hfz6_2
  obtain ⟨kq, x13_1, rfl, HA, HJ1, BK106, HB⟩ := hcut
  cases kq with
  | zero => exact absurd HA.out (by simp [uL13_Small.j0])
  | succ kj1 =>
   have H := HA.out
   clear HA
   simp only [uL13_Small.j0] at H
   have HF7 := ak_ H
   clear H
   go_upto_if 13 with (fail)
   have H := HF7.out
   clear HF7
   by_cases c8 : x13_1 = true
   · subst c8
     have H1 : (some 1) = some r := by rw [if_pos rfl] at H; exact H
     clear H
     have H := H1
     clear H1
     obtain rfl := Option.some.inj H
     go_wp2
     go_ret
     exact ⟨by first | rfl | simp [*], by repeat (first | (with_reducible first | exact HB.out | apply pa | apply pd | apply pe | refine zs ?_ GE106.out) | exact HB.out)⟩
   replace c8 := Bool.eq_false_iff.mpr c8
   subst c8
   have H1 : (uL13_Small.l0 kj1 0 a0_0 a0_1 l0_2) = some r := by rw [if_neg (show ¬ (false = true) by decide)] at H; exact H
   clear H
   have H := H1
   clear H1
   have H' := ak_ H
   clear H
   go_wp2
   go_loopg [3] kj1 (fun kq v3 w' => ∃ (x3_2 : Int), v3 = .int .i64 x3_2 ∧ Aside0 (uL13_Small.l0 kq x3_2 a0_0 a0_1 l0_2 = some r) ∧ Aside0 (kq ≤ kj1) ∧ Aside0 (w'.heap[gb106]? = some (.cells #[.string a0_0, .int .i64 a0_1, (.slice A0_2 l0_2.length c0_2)] 24 (0, 0))) ∧ Aside0 (Below w.heap.size w w'))
   case atStart => exact ⟨(0), (by first | rfl | simp [*]), H', ⟨Nat.le_refl _⟩, ⟨by (with_reducible repeat (first | apply zn | apply zd | apply za)); exact BK106.out⟩, ⟨by repeat (first | (with_reducible first | exact HB.out | apply pa | apply pd | apply pe | refine zs ?_ GE106.out) | exact HB.out)⟩⟩
   case round =>
    clear H'
    try clear p2
    try clear c4
    try clear c4b0
    try clear c4b1
    try clear c7
    try clear c8
    try clear hcz5_0
    try clear hcz5_1
    try clear hcz5_2
    try clear hcz6_0
    try clear hcz6_1
    try clear hcz6_2
    try clear hfz5_0
    try clear hfz5_1
    try clear hfz5_2
    try clear hfz6_0
    try clear hfz6_1
    try clear hfz6_2
    try clear p2
    obtain ⟨x3_2, rfl, HA, HK2, BK106, HB⟩ := hrel
    cases gk with
    | zero => exact absurd HA.out (by simp [uL13_Small.l0])
    | succ k2 =>
     have H := HA.out
     clear HA
     simp only [uL13_Small.l0] at H
     have HF9 := ak_ H
     clear H
     have hcz10_0 : wr.cell? ⟨gb106, 0, none⟩ = some (.string a0_0) := (zc BK106.out 0).trans rfl
     have hcz10_1 : wr.cell? ⟨gb106, 1, none⟩ = some (.int .i64 a0_1) := (zc BK106.out 1).trans rfl
     have hcz10_2 : wr.cell? ⟨gb106, 2, none⟩ = some (.slice A0_2 l0_2.length c0_2) := (zc BK106.out 2).trans rfl
     have hfz10_0 := zf BK106.out 0
     have hfz10_1 := zf BK106.out 1
     have hfz10_2 := zf BK106.out 2
     go_upto_if 18 with (fail)
     have H := HF9.out
     clear HF9
     by_cases c11 : x3_2 < (l0_2.length : Int)
     · rw [if_pos c11] at H
       have c11b0 : decide (x3_2 < (l0_2.length : Int)) = true := dt_ c11
       clear c11
       (first | rw [c11b0] | (simp only [i64_w, i32_w]; rw [c11b0]) | skip)
       by_cases c12 : 0 ≤ x3_2
       · rw [if_pos c12] at H
         have c12b0 : decide (0 ≤ x3_2) = true := dt_ c12
         clear c12
         by_cases c13 : (((rT l0_2 x3_2).f0).size : Int) > 100
         · rw [if_pos c13] at H
           have c13b0 : decide (100 < (((rT l0_2 x3_2).f0).size : Int)) = true := dt_ c13
           have c13b1 : decide (100 < ((rT l0_2 x3_2).f0).size) = true := dt_ (by omega)
           clear c13
           obtain rfl := Option.some.inj H
           have hcz14_0 : wr.cell? ⟨gb106, 0, none⟩ = some (.string a0_0) := (zc BK106.out 0).trans rfl
           have hcz14_1 : wr.cell? ⟨gb106, 1, none⟩ = some (.int .i64 a0_1) := (zc BK106.out 1).trans rfl
           have hcz14_2 : wr.cell? ⟨gb106, 2, none⟩ = some (.slice A0_2 l0_2.length c0_2) := (zc BK106.out 2).trans rfl
           have hfz14_0 := zf BK106.out 0
           have hfz14_1 := zf BK106.out 1
           have hfz14_2 := zf BK106.out 2
           have p107 : 0 ≤ (x3_2 : Int) := of_decide_eq_true (by assumption)
           have q107 : x3_2 < (l0_2.length : Int) := of_decide_eq_true (by assumption)
           obtain ⟨ad107, e107, hx107_0, hx107_1, hx107_2, hx107_3, hx107_4, hx107_5, hx107_6, hx107_7, hx107_8, hx107_9, hx107_10, hx107_11⟩ := at_T61 HR0_2.out x3_2 p107 q107
           cases e107
           replace hx107_0 := (HB.out.cell (bl_ w _ hx107_0)).trans hx107_0
           replace hx107_1 := (HB.out.cell (bl_ w _ hx107_1)).trans hx107_1
           replace hx107_2 := (HB.out.cell (bl_ w _ hx107_2)).trans hx107_2
           replace hx107_3 := (HB.out.cell (bl_ w _ hx107_3)).trans hx107_3
           replace hx107_4 := (HB.out.cell (bl_ w _ hx107_4)).trans hx107_4
           replace hx107_5 := (HB.out.cell (bl_ w _ hx107_5)).trans hx107_5
           replace hx107_6 := (HB.out.cell (bl_ w _ hx107_6)).trans hx107_6
           replace hx107_7 := (HB.out.cell (bl_ w _ hx107_7)).trans hx107_7
           replace hx107_8 := (HB.out.cell (bl_ w _ hx107_8)).trans hx107_8
           replace hx107_9 := (HB.out.cell (bl_ w _ hx107_9)).trans hx107_9
           replace hx107_10 := (HB.out.cell (bl_ w _ hx107_10)).trans hx107_10
           replace hx107_11 := (HB.out.cell (bl_ w _ hx107_11)).trans hx107_11
           replace p107 := eq_true p107
           replace q107 := eq_true q107
           go_wp2
           go_ret
           exact ⟨by first | rfl | simp [*], by repeat (first | (with_reducible first | exact HB.out | apply pa | apply pd | apply pe | refine zs ?_ GE106.out) | exact HB.out)⟩
         rw [if_neg c13] at H
         have c13b0 : decide (100 < (((rT l0_2 x3_2).f0).size : Int)) = false := df_ c13
         have c13b1 : decide (100 < ((rT l0_2 x3_2).f0).size) = false := df_ (by omega)
         clear c13
         have HF15 := ak_ H
         clear H
         have hcz16_0 : wr.cell? ⟨gb106, 0, none⟩ = some (.string a0_0) := (zc BK106.out 0).trans rfl
         have hcz16_1 : wr.cell? ⟨gb106, 1, none⟩ = some (.int .i64 a0_1) := (zc BK106.out 1).trans rfl
         have hcz16_2 : wr.cell? ⟨gb106, 2, none⟩ = some (.slice A0_2 l0_2.length c0_2) := (zc BK106.out 2).trans rfl
         have hfz16_0 := zf BK106.out 0
         have hfz16_1 := zf BK106.out 1
         have hfz16_2 := zf BK106.out 2
         have p107 : 0 ≤ (x3_2 : Int) := of_decide_eq_true (by assumption)
         have q107 : x3_2 < (l0_2.length : Int) := of_decide_eq_true (by assumption)
         obtain ⟨ad107, e107, hx107_0, hx107_1, hx107_2, hx107_3, hx107_4, hx107_5, hx107_6, hx107_7, hx107_8, hx107_9, hx107_10, hx107_11⟩ := at_T61 HR0_2.out x3_2 p107 q107
         cases e107
         replace hx107_0 := (HB.out.cell (bl_ w _ hx107_0)).trans hx107_0
         replace hx107_1 := (HB.out.cell (bl_ w _ hx107_1)).trans hx107_1
         replace hx107_2 := (HB.out.cell (bl_ w _ hx107_2)).trans hx107_2
         replace hx107_3 := (HB.out.cell (bl_ w _ hx107_3)).trans hx107_3
         replace hx107_4 := (HB.out.cell (bl_ w _ hx107_4)).trans hx107_4
         replace hx107_5 := (HB.out.cell (bl_ w _ hx107_5)).trans hx107_5
         replace hx107_6 := (HB.out.cell (bl_ w _ hx107_6)).trans hx107_6
         replace hx107_7 := (HB.out.cell (bl_ w _ hx107_7)).trans hx107_7
         replace hx107_8 := (HB.out.cell (bl_ w _ hx107_8)).trans hx107_8
         replace hx107_9 := (HB.out.cell (bl_ w _ hx107_9)).trans hx107_9
         replace hx107_10 := (HB.out.cell (bl_ w _ hx107_10)).trans hx107_10
         replace hx107_11 := (HB.out.cell (bl_ w _ hx107_11)).trans hx107_11
         replace p107 := eq_true p107
         replace q107 := eq_true q107
         have p108 : 0 ≤ (x3_2 : Int) := of_decide_eq_true (by assumption)
         have q108 : x3_2 < (l0_2.length : Int) := of_decide_eq_true (by assumption)
         obtain ⟨ad108, e108, hx108_0, hx108_1, hx108_2, hx108_3, hx108_4, hx108_5, hx108_6, hx108_7, hx108_8, hx108_9, hx108_10, hx108_11⟩ := at_T61 HR0_2.out x3_2 p108 q108
         obtain rfl : ad107 = ad108 := (by injection e108)
         replace hx108_0 := (HB.out.cell (bl_ w _ hx108_0)).trans hx108_0
         replace hx108_1 := (HB.out.cell (bl_ w _ hx108_1)).trans hx108_1
         replace hx108_2 := (HB.out.cell (bl_ w _ hx108_2)).trans hx108_2
         replace hx108_3 := (HB.out.cell (bl_ w _ hx108_3)).trans hx108_3
         replace hx108_4 := (HB.out.cell (bl_ w _ hx108_4)).trans hx108_4
         replace hx108_5 := (HB.out.cell (bl_ w _ hx108_5)).trans hx108_5
         replace hx108_6 := (HB.out.cell (bl_ w _ hx108_6)).trans hx108_6
         replace hx108_7 := (HB.out.cell (bl_ w _ hx108_7)).trans hx108_7
         replace hx108_8 := (HB.out.cell (bl_ w _ hx108_8)).trans hx108_8
         replace hx108_9 := (HB.out.cell (bl_ w _ hx108_9)).trans hx108_9
         replace hx108_10 := (HB.out.cell (bl_ w _ hx108_10)).trans hx108_10
         replace hx108_11 := (HB.out.cell (bl_ w _ hx108_11)).trans hx108_11
         replace p108 := eq_true p108
         replace q108 := eq_true q108
         go_upto_if 38 with (fail)
         have H := HF15.out
         clear HF15
         by_cases c17 : (((rT l0_2 x3_2).f1).size : Int) > 100
         · rw [if_pos c17] at H
           have c17b0 : decide (100 < (((rT l0_2 x3_2).f1).size : Int)) = true := dt_ c17
           have c17b1 : decide (100 < ((rT l0_2 x3_2).f1).size) = true := dt_ (by omega)
           clear c17
           (first | rw [c17b0] | (simp only [i64_w, i32_w]; rw [c17b0]) | skip)
           obtain rfl := Option.some.inj H
           go_wp2
           go_ret
           exact ⟨by first | rfl | simp [*], by repeat (first | (with_reducible first | exact HB.out | apply pa | apply pd | apply pe | refine zs ?_ GE106.out) | exact HB.out)⟩
         rw [if_neg c17] at H
         have c17b0 : decide (100 < (((rT l0_2 x3_2).f1).size : Int)) = false := df_ c17
         have c17b1 : decide (100 < ((rT l0_2 x3_2).f1).size) = false := df_ (by omega)
         clear c17
         (first | rw [c17b0] | (simp only [i64_w, i32_w]; rw [c17b0]) | skip)
         have H' := ak_ H
         clear H
         go_wp2
         go_roundg k2
         case measure => have := HJ1.out; have := HK2.out; omega
         case rel => exact ⟨(wrap64 (x3_2 + 1)), (by first | rfl | simp [*]), H', ⟨by have := HJ1.out; have := HK2.out; omega⟩, ⟨by (with_reducible repeat (first | apply zn | apply zd | apply za)); exact BK106.out⟩, ⟨by repeat (first | (with_reducible first | exact HB.out | apply pa | apply pd | apply pe | refine zs ?_ GE106.out) | exact HB.out)⟩⟩
       rw [if_neg c12] at H
       exact absurd H (by simp)
     rw [if_neg c11] at H
     have c11b0 : decide (x3_2 < (l0_2.length : Int)) = false := df_ c11
     clear c11
     (first | rw [c11b0] | (simp only [i64_w, i32_w]; rw [c11b0]) | skip)
     obtain rfl := Option.some.inj H
     go_wp2
     go_ret
     exact ⟨by first | rfl | simp [*], by repeat (first | (with_reducible first | exact HB.out | apply pa | apply pd | apply pe | refine zs ?_ GE106.out) | exact HB.out)⟩
end Go.Proofs.YtcgpbakimkhdpaaDoor.Q
section
namespace Go.Proofs.YtcgpbakimkhdpaaDoor.Walk
set_option linter.unusedVariables false
set_option linter.unusedSimpArgs false
open Go.RowKit Go.Proofs.YtcgpbakimkhdpaaDoor.Q Go.Proofs.YtcgpbakimkhdpaaDoorW.PrintWords Go.Proofs.YtcgpbakimkhdpaaDoorW.PrintLast Go.Proofs.YtcgpbakimkhdpaaDoorW.PrintMore Go.Proofs.YtcgpbakimkhdpaaDoor.Opn
theorem awake15 (K : Nat) (hK : 100 ≤ K) : uL15_awake.f K = some true := by
  unfold uL15_awake.f code_PutSaga.f
  rw [if_pos (by refine ⟨⟨?_, ?_, ?_, ?_, ?_, ?_, ?_⟩, ?_⟩ <;> decide), Option.bind_some]
  have e : sagaB 0 (⟨#[]⟩ : ByteArray) 0 0 0 0 false 0 0 = List.replicate 65 0 := by decide
  rw [e]
  have st : ∀ (d i k : Nat), i + d = 65 → d + 1 ≤ k → uL15_awake.l0 k (List.replicate 65 0) (i : Int) = some true := by
    intro d
    induction d with
    | zero =>
      intro i k hi hk
      obtain ⟨k, rfl⟩ : ∃ j, k = j + 1 := ⟨k - 1, by omega⟩
      rw [uL15_awake.l0, if_neg (by rw [List.length_replicate]; omega)]
      rfl
    | succ d ih =>
      intro i k hi hk
      obtain ⟨k, rfl⟩ : ∃ j, k = j + 1 := ⟨k - 1, by omega⟩
      have hr : rd (List.replicate 65 0) (i : Int) = 0 := by
        unfold rd
        rw [Int.toNat_natCast, List.getD_eq_getElem?_getD, List.getElem?_replicate]
        split <;> rfl
      have e1 : wrap64 ((i : Int) + 1) = ((i + 1 : Nat) : Int) := by unfold wrap64; omega
      rw [uL15_awake.l0, if_pos (by rw [List.length_replicate]; omega), if_pos (by omega), if_pos hr, e1]
      exact ih (i + 1) k (by omega) (by omega)
  exact st 65 0 K (by omega) (by omega)
theorem small_l (n : ByteArray) (dl : Int) (l : List S61) (hl : l.length ≤ 40) : ∀ (d i k : Nat), l.length - i ≤ d → d < k → (∀ j, j < i → ∀ (hj : j < l.length), l[j].f0.size ≤ 100 ∧ l[j].f1.size ≤ 100) → ∃ r, uL13_Small.l0 k (i : Int) n dl l = some r ∧ (r = 0 → NmS 100 l)
  | d, i, 0, _, hk, _ => absurd hk (by omega)
  | d, i, k + 1, hd, hk, hs => by
    rw [uL13_Small.l0]
    by_cases hi : i < l.length
    · rw [if_pos (show (i : Int) < (l.length : Int) by omega), if_pos (show (0 : Int) ≤ (i : Int) by omega), rdS_at hi]
      by_cases h0 : ((l[i].f0.size : Nat) : Int) > 100
      · rw [if_pos h0]
        exact ⟨2, rfl, fun h => absurd h (by decide)⟩
      · rw [if_neg h0]
        by_cases h1 : ((l[i].f1.size : Nat) : Int) > 100
        · rw [if_pos h1]
          exact ⟨2, rfl, fun h => absurd h (by decide)⟩
        · rw [if_neg h1, wr1 (by omega) (by omega)]
          cases d with | zero => omega | succ d =>
            refine small_l n dl l hl d (i + 1) k (by omega) (by omega) (fun j hj hjl => ?_)
            by_cases e : j = i
            · subst e; exact ⟨by omega, by omega⟩
            · exact hs j (by omega) hjl
    · rw [if_neg (show ¬ (i : Int) < (l.length : Int) by omega)]
      refine ⟨0, rfl, fun _ x hx => ?_⟩
      obtain ⟨j, hj, rfl⟩ := List.getElem_of_mem hx
      exact hs j (by omega) hj
theorem small_f (n : ByteArray) (dl : Int) (l : List S61) (k : Nat) (hk : 50 ≤ k) : ∃ r, uL13_Small.f k n dl l = some r ∧ (r = 0 → l.length ≤ 40 ∧ n.size ≤ 100 ∧ NmS 100 l) := by
  obtain ⟨k2, rfl⟩ : ∃ k2, k = k2 + 1 := ⟨k - 1, by omega⟩
  unfold uL13_Small.f
  have hj : ∃ r, uL13_Small.j0 (k2 + 1) true n dl l = some r ∧ (r = 0 → l.length ≤ 40 ∧ n.size ≤ 100 ∧ NmS 100 l) := by
    rw [uL13_Small.j0, if_pos rfl]
    exact ⟨1, rfl, fun h => absurd h (by decide)⟩
  by_cases h0 : (l.length : Int) > 40
  · rw [if_pos h0]; exact hj
  · rw [if_neg h0]
    by_cases h1 : (n.size : Int) > 100
    · rw [decide_eq_true h1]; exact hj
    · rw [decide_eq_false h1, uL13_Small.j0, if_neg (by decide)]
      have h00 : ((0 : Nat) : Int) = 0 := rfl
      rw [← h00]
      obtain ⟨r, hr, hz⟩ := small_l n dl l (by omega) l.length 0 k2 (by omega) (by omega) (fun j hj => absurd hj (by omega))
      exact ⟨r, hr, fun h => ⟨by omega, by omega, hz h⟩⟩
set_option maxRecDepth 100000 in
set_option maxHeartbeats 16000000 in
theorem CodeCuts.go (a0 a1 a2 : Int) (nm : ByteArray) (x1 x2 : Int) (x3 : Bool) (x4 : Int) (x5 : Bool) (dn : ByteArray) (dl : Int) (A : Option Addr) (c : Nat) (l : List S61) (n more : Int) (w : World) (hr : Kd.C k61 w A l.length l) (hc : l.length ≤ c) (hTab_ : Tabs_ w) (i2 : I64_ a2) (r1 : I64_ x1) (r2 : I64_ x2) (r4 : I64_ x4) (n0 : 0 ≤ n ∧ n ≤ 65535) (m0 : 0 ≤ more ∧ more ≤ 255) :
    Calls Tryd.prog 5 #[.agg #[.int .i64 a0, .int .i64 a1, .int .i64 a2, .string nm, .int .i64 x1, .int .i64 x2, .bool x3, .int .i64 x4, .bool x5, .string dn, .int .i64 dl, .slice A l.length c], .int .u16 n, .int .u8 more] w fun e w' => e = .returned (.bool true) ∧ Below w.heap.size w w' := by
  obtain ⟨r, hsm, hz⟩ := small_f dn dl l 400 (by omega)
  have HSM := Aside0.mk hsm
  have HZ := Aside0.mk hz
  have HR := Aside0.mk hr
  have HC := Aside0.mk hc
  have HTAB_ := Aside0.mk hTab_
  have HI := Aside0.mk (And.intro i2 (And.intro r1 (And.intro r2 r4)))
  have HN0 := Aside0.mk n0
  have HM0 := Aside0.mk m0
  have HB := Aside0.mk (Below.refl w.heap.size w)
  clear hsm hz hr hc hTab_ i2 r1 r2 r4 n0 m0
  by_cases h0 : r = 0
  · subst h0
    obtain ⟨s1, s2, s3⟩ := HZ.out rfl
    by_cases hn : (nm.size : Int) > 200
    · have hn2 : decide ((nm.size : Int) > 200) = true := decide_eq_true hn
      clear s1 s2 s3
      go_enter Tryd.func5, Tryd.ntmps5
      go_wp2_with (first | ((with_reducible refine gate_dst (N := 3) rfl ?_); refine box_event ?hg (N := 3) ?hd (cs := #[.int .i64 a0, .int .i64 a1, .int .i64 a2, .string nm, .int .i64 x1, .int .i64 x2, .bool x3, .int .i64 x4, .bool x5, .string dn, .int .i64 dl, .slice A l.length c]) (t := 42) ?hr ?_; (case hd => rfl); (case hg => rfl); (case hr => first | (go_simp; done) | (go_simp; rfl)); intro gs hg w1 hbox hb; have HB1 := Aside0.mk (below_step HB.out hb); have BK1 := Aside0.mk hbox; clear hb hbox hg; have z0 := (blk_cell BK1.out 0).trans rfl; have z1 := (blk_cell BK1.out 1).trans rfl; have z2 := (blk_cell BK1.out 2).trans rfl; have z3 := (blk_cell BK1.out 3).trans rfl; have z4 := (blk_cell BK1.out 4).trans rfl; have z5 := (blk_cell BK1.out 5).trans rfl; have z6 := (blk_cell BK1.out 6).trans rfl; have z7 := (blk_cell BK1.out 7).trans rfl; have z8 := (blk_cell BK1.out 8).trans rfl; have z9 := (blk_cell BK1.out 9).trans rfl; have z10 := (blk_cell BK1.out 10).trans rfl; have z11 := (blk_cell BK1.out 11).trans rfl) | (go_at_call 6; refine (uL15_awake.calls 400 true w1 (awake15 400 (by omega))).mono ?_; rintro e w2 ⟨rfl, hb⟩; have HB2 := Aside0.mk (below_step HB1.out hb); have BK2 := Aside0.mk (blk_below BK1.out hb); clear hb z0 z1 z2 z3 z4 z5 z6 z7 z8 z9 z10 z11; have z0 := (blk_cell BK2.out 0).trans rfl; have z1 := (blk_cell BK2.out 1).trans rfl; have z2 := (blk_cell BK2.out 2).trans rfl; have z3 := (blk_cell BK2.out 3).trans rfl; have z4 := (blk_cell BK2.out 4).trans rfl; have z5 := (blk_cell BK2.out 5).trans rfl; have z6 := (blk_cell BK2.out 6).trans rfl; have z7 := (blk_cell BK2.out 7).trans rfl; have z8 := (blk_cell BK2.out 8).trans rfl; have z9 := (blk_cell BK2.out 9).trans rfl; have z10 := (blk_cell BK2.out 10).trans rfl; have z11 := (blk_cell BK2.out 11).trans rfl) | (go_at_call 7; refine (uL13_Small.calls 400 dn dl A c l _ w2 (Kd.C_below HR.out HB2.out) HC.out HSM.out).mono ?_; rintro e w3 ⟨rfl, hb⟩; have HB3 := Aside0.mk (below_step HB2.out hb); have BK3 := Aside0.mk (blk_below BK2.out hb); clear hb z0 z1 z2 z3 z4 z5 z6 z7 z8 z9 z10 z11; have z0 := (blk_cell BK3.out 0).trans rfl; have z1 := (blk_cell BK3.out 1).trans rfl; have z2 := (blk_cell BK3.out 2).trans rfl; have z3 := (blk_cell BK3.out 3).trans rfl; have z4 := (blk_cell BK3.out 4).trans rfl; have z5 := (blk_cell BK3.out 5).trans rfl; have z6 := (blk_cell BK3.out 6).trans rfl; have z7 := (blk_cell BK3.out 7).trans rfl; have z8 := (blk_cell BK3.out 8).trans rfl; have z9 := (blk_cell BK3.out 9).trans rfl; have z10 := (blk_cell BK3.out 10).trans rfl; have z11 := (blk_cell BK3.out 11).trans rfl))
      go_ret
      exact ⟨rfl, HB3.out⟩
    · have s4 : NmS 256 l := fun x hx => by have := s3 x hx; omega
      have hgd := ref_good_f a0 a1 a2 nm x1 x2 x3 x4 x5 dn dl l (m := 256) (by omega) s4 (by omega) (by omega) 4000 (by omega)
      have HS := Aside0.mk (And.intro s1 (And.intro (show dn.size ≤ 256 by omega) (And.intro s4 (show nm.size ≤ 256 by omega))))
      clear s1 s2 s3 s4
      have hn2 : decide ((nm.size : Int) > 200) = false := decide_eq_false hn
      clear hn
      cases hok : evOk a0 a1 a2 nm ⟨x1, x2, x3, x4, x5⟩ dn dl l
      · rw [hok] at hgd
        have HG := Aside0.mk hgd
        clear hgd hok
        go_enter Tryd.func5, Tryd.ntmps5
        go_wp2_with (first | ((with_reducible refine gate_dst (N := 3) rfl ?_); refine box_event ?hg (N := 3) ?hd (cs := #[.int .i64 a0, .int .i64 a1, .int .i64 a2, .string nm, .int .i64 x1, .int .i64 x2, .bool x3, .int .i64 x4, .bool x5, .string dn, .int .i64 dl, .slice A l.length c]) (t := 42) ?hr ?_; (case hd => rfl); (case hg => rfl); (case hr => first | (go_simp; done) | (go_simp; rfl)); intro gs hg w1 hbox hb; have HB1 := Aside0.mk (below_step HB.out hb); have BK1 := Aside0.mk hbox; clear hb hbox hg; have z0 := (blk_cell BK1.out 0).trans rfl; have z1 := (blk_cell BK1.out 1).trans rfl; have z2 := (blk_cell BK1.out 2).trans rfl; have z3 := (blk_cell BK1.out 3).trans rfl; have z4 := (blk_cell BK1.out 4).trans rfl; have z5 := (blk_cell BK1.out 5).trans rfl; have z6 := (blk_cell BK1.out 6).trans rfl; have z7 := (blk_cell BK1.out 7).trans rfl; have z8 := (blk_cell BK1.out 8).trans rfl; have z9 := (blk_cell BK1.out 9).trans rfl; have z10 := (blk_cell BK1.out 10).trans rfl; have z11 := (blk_cell BK1.out 11).trans rfl) | (go_at_call 6; refine (uL15_awake.calls 400 true w1 (awake15 400 (by omega))).mono ?_; rintro e w2 ⟨rfl, hb⟩; have HB2 := Aside0.mk (below_step HB1.out hb); have BK2 := Aside0.mk (blk_below BK1.out hb); clear hb z0 z1 z2 z3 z4 z5 z6 z7 z8 z9 z10 z11; have z0 := (blk_cell BK2.out 0).trans rfl; have z1 := (blk_cell BK2.out 1).trans rfl; have z2 := (blk_cell BK2.out 2).trans rfl; have z3 := (blk_cell BK2.out 3).trans rfl; have z4 := (blk_cell BK2.out 4).trans rfl; have z5 := (blk_cell BK2.out 5).trans rfl; have z6 := (blk_cell BK2.out 6).trans rfl; have z7 := (blk_cell BK2.out 7).trans rfl; have z8 := (blk_cell BK2.out 8).trans rfl; have z9 := (blk_cell BK2.out 9).trans rfl; have z10 := (blk_cell BK2.out 10).trans rfl; have z11 := (blk_cell BK2.out 11).trans rfl) | (go_at_call 7; refine (uL13_Small.calls 400 dn dl A c l _ w2 (Kd.C_below HR.out HB2.out) HC.out HSM.out).mono ?_; rintro e w3 ⟨rfl, hb⟩; have HB3 := Aside0.mk (below_step HB2.out hb); have BK3 := Aside0.mk (blk_below BK2.out hb); clear hb z0 z1 z2 z3 z4 z5 z6 z7 z8 z9 z10 z11; have z0 := (blk_cell BK3.out 0).trans rfl; have z1 := (blk_cell BK3.out 1).trans rfl; have z2 := (blk_cell BK3.out 2).trans rfl; have z3 := (blk_cell BK3.out 3).trans rfl; have z4 := (blk_cell BK3.out 4).trans rfl; have z5 := (blk_cell BK3.out 5).trans rfl; have z6 := (blk_cell BK3.out 6).trans rfl; have z7 := (blk_cell BK3.out 7).trans rfl; have z8 := (blk_cell BK3.out 8).trans rfl; have z9 := (blk_cell BK3.out 9).trans rfl; have z10 := (blk_cell BK3.out 10).trans rfl; have z11 := (blk_cell BK3.out 11).trans rfl) | (go_at_call 18; refine (uR15_Good.calls 4000 a0 a1 a2 nm x1 x2 x3 x4 x5 dn dl A c l _ w3 (Kd.C_below HR.out HB3.out) HC.out HG.out).mono ?_; rintro e w4 ⟨rfl, hb⟩; have HB4 := Aside0.mk (below_step HB3.out hb); have BK4 := Aside0.mk (blk_below BK3.out hb); clear hb z0 z1 z2 z3 z4 z5 z6 z7 z8 z9 z10 z11; have z0 := (blk_cell BK4.out 0).trans rfl; have z1 := (blk_cell BK4.out 1).trans rfl; have z2 := (blk_cell BK4.out 2).trans rfl; have z3 := (blk_cell BK4.out 3).trans rfl; have z4 := (blk_cell BK4.out 4).trans rfl; have z5 := (blk_cell BK4.out 5).trans rfl; have z6 := (blk_cell BK4.out 6).trans rfl; have z7 := (blk_cell BK4.out 7).trans rfl; have z8 := (blk_cell BK4.out 8).trans rfl; have z9 := (blk_cell BK4.out 9).trans rfl; have z10 := (blk_cell BK4.out 10).trans rfl; have z11 := (blk_cell BK4.out 11).trans rfl))
        go_ret
        exact ⟨rfl, HB4.out⟩
      · rw [hok] at hgd
        have HG := Aside0.mk hgd
        have HOK := Aside0.mk hok
        have hput := put_ev HOK.out HS.out.2.2.2 HS.out.2.1 HS.out.2.2.1 HS.out.1 HI.out.1 HI.out.2.1 HI.out.2.2.1 HI.out.2.2.2
        have hlen := evW_len (a0 := a0) (a1 := a1) (a2 := a2) (x := ⟨x1, x2, x3, x4, x5⟩) (dl := dl) HS.out.2.2.2 HS.out.2.1 HS.out.2.2.1 HS.out.1
        have hcut := cut_bad (evOk_f HOK.out) HS.out.2.2.2 HS.out.2.1 HS.out.2.2.1 (by omega)
        have hmore := more_bad (evOk_f HOK.out) HS.out.2.2.2 HS.out.2.1 HS.out.2.2.1 more (by omega)
        generalize evW a0 a1 a2 nm ⟨x1, x2, x3, x4, x5⟩ dn dl l = b at *
        have HP := Aside0.mk hput
        have HMORE := Aside0.mk hmore
        have hbl0 : ((b.length : Int) == 0) = false := beq_eq_false_iff_ne.mpr (by omega)
        have HCUT := Aside0.mk hcut
        have HLEN := Aside0.mk hlen
        clear hgd hok hput hmore hcut hlen
        go_enter Tryd.func5, Tryd.ntmps5
        go_upto_region 8 with (first | ((with_reducible refine gate_dst (N := 3) rfl ?_); refine box_event ?hg (N := 3) ?hd (cs := #[.int .i64 a0, .int .i64 a1, .int .i64 a2, .string nm, .int .i64 x1, .int .i64 x2, .bool x3, .int .i64 x4, .bool x5, .string dn, .int .i64 dl, .slice A l.length c]) (t := 42) ?hr ?_; (case hd => rfl); (case hg => rfl); (case hr => first | (go_simp; done) | (go_simp; rfl)); intro gs hg w1 hbox hb; have HB1 := Aside0.mk (below_step HB.out hb); have BK1 := Aside0.mk hbox; clear hb hbox hg; have z0 := (blk_cell BK1.out 0).trans rfl; have z1 := (blk_cell BK1.out 1).trans rfl; have z2 := (blk_cell BK1.out 2).trans rfl; have z3 := (blk_cell BK1.out 3).trans rfl; have z4 := (blk_cell BK1.out 4).trans rfl; have z5 := (blk_cell BK1.out 5).trans rfl; have z6 := (blk_cell BK1.out 6).trans rfl; have z7 := (blk_cell BK1.out 7).trans rfl; have z8 := (blk_cell BK1.out 8).trans rfl; have z9 := (blk_cell BK1.out 9).trans rfl; have z10 := (blk_cell BK1.out 10).trans rfl; have z11 := (blk_cell BK1.out 11).trans rfl) | (go_at_call 6; refine (uL15_awake.calls 400 true w1 (awake15 400 (by omega))).mono ?_; rintro e w2 ⟨rfl, hb⟩; have HB2 := Aside0.mk (below_step HB1.out hb); have BK2 := Aside0.mk (blk_below BK1.out hb); clear hb z0 z1 z2 z3 z4 z5 z6 z7 z8 z9 z10 z11; have z0 := (blk_cell BK2.out 0).trans rfl; have z1 := (blk_cell BK2.out 1).trans rfl; have z2 := (blk_cell BK2.out 2).trans rfl; have z3 := (blk_cell BK2.out 3).trans rfl; have z4 := (blk_cell BK2.out 4).trans rfl; have z5 := (blk_cell BK2.out 5).trans rfl; have z6 := (blk_cell BK2.out 6).trans rfl; have z7 := (blk_cell BK2.out 7).trans rfl; have z8 := (blk_cell BK2.out 8).trans rfl; have z9 := (blk_cell BK2.out 9).trans rfl; have z10 := (blk_cell BK2.out 10).trans rfl; have z11 := (blk_cell BK2.out 11).trans rfl) | (go_at_call 7; refine (uL13_Small.calls 400 dn dl A c l _ w2 (Kd.C_below HR.out HB2.out) HC.out HSM.out).mono ?_; rintro e w3 ⟨rfl, hb⟩; have HB3 := Aside0.mk (below_step HB2.out hb); have BK3 := Aside0.mk (blk_below BK2.out hb); clear hb z0 z1 z2 z3 z4 z5 z6 z7 z8 z9 z10 z11; have z0 := (blk_cell BK3.out 0).trans rfl; have z1 := (blk_cell BK3.out 1).trans rfl; have z2 := (blk_cell BK3.out 2).trans rfl; have z3 := (blk_cell BK3.out 3).trans rfl; have z4 := (blk_cell BK3.out 4).trans rfl; have z5 := (blk_cell BK3.out 5).trans rfl; have z6 := (blk_cell BK3.out 6).trans rfl; have z7 := (blk_cell BK3.out 7).trans rfl; have z8 := (blk_cell BK3.out 8).trans rfl; have z9 := (blk_cell BK3.out 9).trans rfl; have z10 := (blk_cell BK3.out 10).trans rfl; have z11 := (blk_cell BK3.out 11).trans rfl) | (go_at_call 18; refine (uR15_Good.calls 4000 a0 a1 a2 nm x1 x2 x3 x4 x5 dn dl A c l _ w3 (Kd.C_below HR.out HB3.out) HC.out HG.out).mono ?_; rintro e w4 ⟨rfl, hb⟩; have HB4 := Aside0.mk (below_step HB3.out hb); have BK4 := Aside0.mk (blk_below BK3.out hb); clear hb z0 z1 z2 z3 z4 z5 z6 z7 z8 z9 z10 z11; have z0 := (blk_cell BK4.out 0).trans rfl; have z1 := (blk_cell BK4.out 1).trans rfl; have z2 := (blk_cell BK4.out 2).trans rfl; have z3 := (blk_cell BK4.out 3).trans rfl; have z4 := (blk_cell BK4.out 4).trans rfl; have z5 := (blk_cell BK4.out 5).trans rfl; have z6 := (blk_cell BK4.out 6).trans rfl; have z7 := (blk_cell BK4.out 7).trans rfl; have z8 := (blk_cell BK4.out 8).trans rfl; have z9 := (blk_cell BK4.out 9).trans rfl; have z10 := (blk_cell BK4.out 10).trans rfl; have z11 := (blk_cell BK4.out 11).trans rfl) | (go_at_call 19; refine (code_PutEvent.calls a0 a1 a2 nm x1 x2 x3 x4 x5 dn dl A c l b 0 w4 (Kd.C_below HR.out HB4.out) HC.out (Tabs_.below HTAB_.out HB4.out) HP.out).mono ?_; rintro e w5 ⟨v5, rfl, hv, hb⟩; have HB5 := Aside0.mk (below_step HB4.out hb); obtain ⟨Ab, cb, rfl, hcb, hCb⟩ := Kd.R_reads hv; have HV := Aside0.mk hCb; have HCB := Aside0.mk hcb; clear hb hv hcb hCb z0 z1 z2 z3 z4 z5 z6 z7 z8 z9 z10 z11))
        have hk2 : ((wrap64 n).tmod (b.length : Int)).toNat < b.length := by
          have h1 := HN0.out
          have h2 := HLEN.out
          have e1 : wrap64 n = n := by unfold wrap64; omega
          rw [e1, Int.tmod_eq_emod_of_nonneg h1.1]
          have h3 := Int.emod_lt_of_pos n (show (0 : Int) < b.length by omega)
          have h4 := Int.emod_nonneg n (show (b.length : Int) ≠ 0 by omega)
          omega
        obtain ⟨q_a0, q_a1, q_a2, q_nm, q_x1, q_x2, q_x3, q_x4, q_x5, q_dn, q_dl, q_l, q_at, q_e, hT, hne⟩ := HCUT.out _ hk2
        have hlk : (b.take ((wrap64 n).tmod (b.length : Int)).toNat).length = ((wrap64 n).tmod (b.length : Int)).toNat := by rw [List.length_take]; omega
        have hT2 := code_TakeEvent.calls Ab cb _ q_a0 q_a1 q_a2 q_nm q_x1 q_x2 q_x3 q_x4 q_x5 q_dn q_dl q_l q_at q_e w5 (Kd.C_take HV.out (Nat.le_of_lt hk2)) (by rw [hlk]; have := HCB.out; omega) (Tabs_.below HTAB_.out HB5.out) hT
        rw [hlk] at hT2
        have HT2 := Aside0.mk hT2
        have hne2 : (q_e != 0) = true := bne_iff_ne.mpr hne
        obtain ⟨m_a0, m_a1, m_a2, m_nm, m_x1, m_x2, m_x3, m_x4, m_x5, m_dn, m_dl, m_l, hM⟩ := HMORE.out
        have HM := Aside0.mk hM
        have hbn : ¬ b = [] := fun h => by
          have := HLEN.out
          rw [h] at this
          exact absurd this.1 (by decide)
        obtain ⟨infb, hinfb, _⟩ := info_parts infoB
        have hk0 : 0 ≤ (wrap64 n).tmod (b.length : Int) := by
          have h1 := HN0.out
          have e1 : wrap64 n = n := by unfold wrap64; omega
          rw [e1, Int.tmod_eq_emod_of_nonneg h1.1]
          exact Int.emod_nonneg n (by have := HLEN.out; omega)
        have kcut := cut_to (P := Tryd.prog) 25 5 .i64 Tryd.underlying25 hinfb Ab b.length cb ((wrap64 n).tmod (b.length : Int)) hk0 (by omega) HCB.out
        clear hT hT2 hlk hne hM hk2 hinfb hk0
        go_upto_region 9 with (first | (go_at_call 14; refine HT2.out.mono ?_; rintro e w6 ⟨v6, rfl, hv6, hb6⟩; obtain ⟨A6, c6, rfl⟩ := Kd.R_slice hv6; have HB6 := Aside0.mk (below_step HB5.out hb6); have HV6 := Aside0.mk (Kd.C_below HV.out hb6); clear hb6 hv6) | ((with_reducible refine gate_dst (N := 9) rfl ?_); refine box_event ?hg (N := 9) ?hd (cs := #[.int .i64 0, .int .i64 0, .int .i64 0, .string (⟨#[]⟩ : ByteArray), .int .i64 0, .int .i64 0, .bool false, .int .i64 0, .bool false, .string (⟨#[]⟩ : ByteArray), .int .i64 0, .slice none 0 0]) (t := 42) ?hr ?_; (case hd => rfl); (case hg => rfl); (case hr => first | (go_simp; done) | (go_simp; rfl)); intro g9 hg w7 hbox hb; have HB7 := Aside0.mk hb; have BK7 := Aside0.mk hbox; have GE7 := Aside0.mk (show w6.heap.size ≤ g9 by rw [hg]; exact Nat.le_refl _); clear hb hbox hg; have z0 := (blk_cell BK7.out 0).trans rfl; have z1 := (blk_cell BK7.out 1).trans rfl; have z2 := (blk_cell BK7.out 2).trans rfl; have z3 := (blk_cell BK7.out 3).trans rfl; have z4 := (blk_cell BK7.out 4).trans rfl; have z5 := (blk_cell BK7.out 5).trans rfl; have z6 := (blk_cell BK7.out 6).trans rfl; have z7 := (blk_cell BK7.out 7).trans rfl; have z8 := (blk_cell BK7.out 8).trans rfl; have z9 := (blk_cell BK7.out 9).trans rfl; have z10 := (blk_cell BK7.out 10).trans rfl; have z11 := (blk_cell BK7.out 11).trans rfl; have f0 := blk_frozen BK7.out 0; have f1 := blk_frozen BK7.out 1; have f2 := blk_frozen BK7.out 2; have f3 := blk_frozen BK7.out 3; have f4 := blk_frozen BK7.out 4; have f5 := blk_frozen BK7.out 5; have f6 := blk_frozen BK7.out 6; have f7 := blk_frozen BK7.out 7; have f8 := blk_frozen BK7.out 8; have f9 := blk_frozen BK7.out 9; have f10 := blk_frozen BK7.out 10; have f11 := blk_frozen BK7.out 11))
        have HB8 := Aside0.mk (below_set (g := g9) (j := 11) (v := .slice A6 q_l.length c6) (below_set (g := g9) (j := 10) (v := .int .i64 q_dl) (below_set (g := g9) (j := 9) (v := .string q_dn) (below_set (g := g9) (j := 8) (v := .bool q_x5) (below_set (g := g9) (j := 7) (v := .int .i64 q_x4) (below_set (g := g9) (j := 6) (v := .bool q_x3) (below_set (g := g9) (j := 5) (v := .int .i64 q_x2) (below_set (g := g9) (j := 4) (v := .int .i64 q_x1) (below_set (g := g9) (j := 3) (v := .string q_nm) (below_set (g := g9) (j := 2) (v := .int .i64 q_a2) (below_set (g := g9) (j := 1) (v := .int .i64 q_a1) (below_set (g := g9) (j := 0) (v := .int .i64 q_a0) HB7.out GE7.out) GE7.out) GE7.out) GE7.out) GE7.out) GE7.out) GE7.out) GE7.out) GE7.out) GE7.out) GE7.out) GE7.out)
        clear z0 f0 z1 f1 z2 f2 z3 f3 z4 f4 z5 f5 z6 f6 z7 f7 z8 f8 z9 f9 z10 f10 z11 f11
        generalize ((((((((((((w7.setCell ⟨g9, 0, none⟩ (.int .i64 q_a0)).setCell ⟨g9, 1, none⟩ (.int .i64 q_a1)).setCell ⟨g9, 2, none⟩ (.int .i64 q_a2)).setCell ⟨g9, 3, none⟩ (.string q_nm)).setCell ⟨g9, 4, none⟩ (.int .i64 q_x1)).setCell ⟨g9, 5, none⟩ (.int .i64 q_x2)).setCell ⟨g9, 6, none⟩ (.bool q_x3)).setCell ⟨g9, 7, none⟩ (.int .i64 q_x4)).setCell ⟨g9, 8, none⟩ (.bool q_x5)).setCell ⟨g9, 9, none⟩ (.string q_dn)).setCell ⟨g9, 10, none⟩ (.int .i64 q_dl)).setCell ⟨g9, 11, none⟩ (.slice A6 q_l.length c6)) = w8 at *
        have HV8 := Aside0.mk (Kd.C_below HV6.out HB8.out)
        go_upto_region 10 with (first | ((with_reducible refine gate_dst (N := 57) rfl ?_); refine Kd.R_lit (Kd.int .u8) w8.heap.size 5 ?hg (N := 57) ?hd (xs := ([] : List Int)) (inner := []) (ok := fun _ => True) (okp := fun _ => True) ?hr ?hp (fun _ hk => hk) trivial (Below.refl _ _) (Nat.le_refl _) (by simp) ?_; (case hd => rfl); (case hg => rfl); (case hr => first | (go_simp; done) | (go_simp; rfl)); (case hp => exact (Reps.none _ _)); intro v9 w9 ho hb hg_ hnew_; clear hg_ hnew_; have HO9 := Aside0.mk ho; have HB9 := Aside0.mk hb; clear ho hb) | ((with_reducible refine gate_builtin (b := .append) (xs := #[.tmp 57, .tmp 58]) rfl ?_); at_builtin; refine Kd.R_append_rows (Kd.int .u8) (w0 := w8) w8.heap.size rfl (.tmp 57) (.tmp 58) 25 5 (.int .u8 0) 1 rfl Tryd.underlying25 infoB rfl (by decide) (by omega) v9 [] b _ _ _ (fun _ => True) (fun _ => False) rfl rfl HO9.out (Kd.C_below HV8.out HB9.out) (fun _ _ h => h) (fun _ h => h.elim) (fun _ _ => trivial) HB9.out HB9.out.size ?aL ?_; (case aL => have := HLEN.out; simp; omega); intro v10 w10 ho hb hg hat; have HO10 := Aside0.mk ho; have HB10 := Aside0.mk hb; clear ho hb hg hat) | ((with_reducible refine gate_dst (N := 61) rfl ?_); refine Kd.R_lit (Kd.int .u8) w8.heap.size 5 ?hg (N := 61) ?hd (xs := ([more] : List Int)) (inner := [.int .u8 more]) (ok := fun _ => True) (okp := fun _ => True) ?hr ?hp (fun _ hk => hk) trivial HB10.out HB10.out.size (by simp) ?_; (case hd => rfl); (case hg => rfl); (case hr => first | (go_simp; done) | (go_simp; rfl)); (case hp => exact (Reps.one (show Kd.M (Kd.int .u8) _ _ _ more [.int .u8 more] from rfl) (Reps.none _ _))); intro v11 w11 ho hb hg_ hnew_; obtain ⟨A11, c11, rfl⟩ := Kd.R_slice ho; have HO11 := Aside0.mk (Kd.R_reads' ho); have HO10b := Aside0.mk (Kd.R_grown HO10.out hg_ (fun _ _ => by simp)); have HB11 := Aside0.mk hb; clear ho hb hg_ hnew_) | ((with_reducible refine gate_builtin (b := .append) (xs := #[.tmp 59, .tmp 61]) rfl ?_); at_builtin; refine Kd.R_append_rows (Kd.int .u8) (w0 := w8) w8.heap.size rfl (.tmp 59) (.tmp 61) 25 5 (.int .u8 0) 1 rfl Tryd.underlying25 infoB rfl (by decide) (by omega) v10 ([] ++ b) [more] _ _ _ (fun _ => True) (fun _ => False) rfl rfl HO10b.out HO11.out.2.2 (fun _ _ h => h) (fun _ h => h.elim) (fun _ _ => trivial) HB11.out HB11.out.size ?aL ?_; (case aL => have := HLEN.out; simp; omega); intro v12 w12 ho hb hg hat; obtain ⟨A12, c12, rfl⟩ := Kd.R_slice ho; have HO12 := Aside0.mk (show (b ++ [more]).length ≤ c12 ∧ Kd.C (Kd.int .u8) w12 A12 (b ++ [more]).length (b ++ [more]) from ⟨(Kd.R_reads' ho).2.1, (Kd.R_reads' ho).2.2⟩); have HB12 := Aside0.mk (below_step (below_step HB6.out HB8.out) hb); clear ho hb hg hat) | (go_at_call 14; have hT := code_TakeEvent.calls A12 c12 (b ++ [more]) m_a0 m_a1 m_a2 m_nm m_x1 m_x2 m_x3 m_x4 m_x5 m_dn m_dl m_l _ _ w12 HO12.out.2 HO12.out.1 (Tabs_.below HTAB_.out HB12.out) HM.out; rw [show (b ++ [more]).length = b.length + 1 from by rw [List.length_append, List.length_singleton]] at hT; refine hT.mono ?_; clear hT; rintro e w13 ⟨v13, rfl, hv13, hb13⟩; obtain ⟨A13, c13, rfl⟩ := Kd.R_slice hv13; have HB13 := Aside0.mk (below_step HB12.out hb13); clear hb13 hv13) | ((with_reducible refine gate_dst (N := 12) rfl ?_); refine box_event ?hg (N := 12) ?hd (cs := #[.int .i64 0, .int .i64 0, .int .i64 0, .string (⟨#[]⟩ : ByteArray), .int .i64 0, .int .i64 0, .bool false, .int .i64 0, .bool false, .string (⟨#[]⟩ : ByteArray), .int .i64 0, .slice none 0 0]) (t := 42) ?hr ?_; (case hd => rfl); (case hg => rfl); (case hr => first | (go_simp; done) | (go_simp; rfl)); intro g14 hg w14 hbox hb; have HB14 := Aside0.mk hb; have BK14 := Aside0.mk hbox; have GE14 := Aside0.mk (show w13.heap.size ≤ g14 by rw [hg]; exact Nat.le_refl _); clear hb hbox hg; have z0 := (blk_cell BK14.out 0).trans rfl; have z1 := (blk_cell BK14.out 1).trans rfl; have z2 := (blk_cell BK14.out 2).trans rfl; have z3 := (blk_cell BK14.out 3).trans rfl; have z4 := (blk_cell BK14.out 4).trans rfl; have z5 := (blk_cell BK14.out 5).trans rfl; have z6 := (blk_cell BK14.out 6).trans rfl; have z7 := (blk_cell BK14.out 7).trans rfl; have z8 := (blk_cell BK14.out 8).trans rfl; have z9 := (blk_cell BK14.out 9).trans rfl; have z10 := (blk_cell BK14.out 10).trans rfl; have z11 := (blk_cell BK14.out 11).trans rfl; have f0 := blk_frozen BK14.out 0; have f1 := blk_frozen BK14.out 1; have f2 := blk_frozen BK14.out 2; have f3 := blk_frozen BK14.out 3; have f4 := blk_frozen BK14.out 4; have f5 := blk_frozen BK14.out 5; have f6 := blk_frozen BK14.out 6; have f7 := blk_frozen BK14.out 7; have f8 := blk_frozen BK14.out 8; have f9 := blk_frozen BK14.out 9; have f10 := blk_frozen BK14.out 10; have f11 := blk_frozen BK14.out 11))
        have HB15 := Aside0.mk (below_set (g := g14) (j := 11) (v := .slice A13 m_l.length c13) (below_set (g := g14) (j := 10) (v := .int .i64 m_dl) (below_set (g := g14) (j := 9) (v := .string m_dn) (below_set (g := g14) (j := 8) (v := .bool m_x5) (below_set (g := g14) (j := 7) (v := .int .i64 m_x4) (below_set (g := g14) (j := 6) (v := .bool m_x3) (below_set (g := g14) (j := 5) (v := .int .i64 m_x2) (below_set (g := g14) (j := 4) (v := .int .i64 m_x1) (below_set (g := g14) (j := 3) (v := .string m_nm) (below_set (g := g14) (j := 2) (v := .int .i64 m_a2) (below_set (g := g14) (j := 1) (v := .int .i64 m_a1) (below_set (g := g14) (j := 0) (v := .int .i64 m_a0) HB14.out GE14.out) GE14.out) GE14.out) GE14.out) GE14.out) GE14.out) GE14.out) GE14.out) GE14.out) GE14.out) GE14.out) GE14.out)
        clear z0 f0 z1 f1 z2 f2 z3 f3 z4 f4 z5 f5 z6 f6 z7 f7 z8 f8 z9 f9 z10 f10 z11 f11
        generalize ((((((((((((w14.setCell ⟨g14, 0, none⟩ (.int .i64 m_a0)).setCell ⟨g14, 1, none⟩ (.int .i64 m_a1)).setCell ⟨g14, 2, none⟩ (.int .i64 m_a2)).setCell ⟨g14, 3, none⟩ (.string m_nm)).setCell ⟨g14, 4, none⟩ (.int .i64 m_x1)).setCell ⟨g14, 5, none⟩ (.int .i64 m_x2)).setCell ⟨g14, 6, none⟩ (.bool m_x3)).setCell ⟨g14, 7, none⟩ (.int .i64 m_x4)).setCell ⟨g14, 8, none⟩ (.bool m_x5)).setCell ⟨g14, 9, none⟩ (.string m_dn)).setCell ⟨g14, 10, none⟩ (.int .i64 m_dl)).setCell ⟨g14, 11, none⟩ (.slice A13 m_l.length c13)) = w15 at *
        go_wp2
        go_ret
        exact ⟨rfl, below_step HB13.out HB15.out⟩
  · have h0' : (r != 0) = true := bne_iff_ne.mpr h0
    clear h0
    go_enter Tryd.func5, Tryd.ntmps5
    go_wp2_with (first | ((with_reducible refine gate_dst (N := 3) rfl ?_); refine box_event ?hg (N := 3) ?hd (cs := #[.int .i64 a0, .int .i64 a1, .int .i64 a2, .string nm, .int .i64 x1, .int .i64 x2, .bool x3, .int .i64 x4, .bool x5, .string dn, .int .i64 dl, .slice A l.length c]) (t := 42) ?hr ?_; (case hd => rfl); (case hg => rfl); (case hr => first | (go_simp; done) | (go_simp; rfl)); intro gs hg w1 hbox hb; have HB1 := Aside0.mk (below_step HB.out hb); have BK1 := Aside0.mk hbox; clear hb hbox hg; have z0 := (blk_cell BK1.out 0).trans rfl; have z1 := (blk_cell BK1.out 1).trans rfl; have z2 := (blk_cell BK1.out 2).trans rfl; have z3 := (blk_cell BK1.out 3).trans rfl; have z4 := (blk_cell BK1.out 4).trans rfl; have z5 := (blk_cell BK1.out 5).trans rfl; have z6 := (blk_cell BK1.out 6).trans rfl; have z7 := (blk_cell BK1.out 7).trans rfl; have z8 := (blk_cell BK1.out 8).trans rfl; have z9 := (blk_cell BK1.out 9).trans rfl; have z10 := (blk_cell BK1.out 10).trans rfl; have z11 := (blk_cell BK1.out 11).trans rfl) | (go_at_call 6; refine (uL15_awake.calls 400 true w1 (awake15 400 (by omega))).mono ?_; rintro e w2 ⟨rfl, hb⟩; have HB2 := Aside0.mk (below_step HB1.out hb); have BK2 := Aside0.mk (blk_below BK1.out hb); clear hb z0 z1 z2 z3 z4 z5 z6 z7 z8 z9 z10 z11; have z0 := (blk_cell BK2.out 0).trans rfl; have z1 := (blk_cell BK2.out 1).trans rfl; have z2 := (blk_cell BK2.out 2).trans rfl; have z3 := (blk_cell BK2.out 3).trans rfl; have z4 := (blk_cell BK2.out 4).trans rfl; have z5 := (blk_cell BK2.out 5).trans rfl; have z6 := (blk_cell BK2.out 6).trans rfl; have z7 := (blk_cell BK2.out 7).trans rfl; have z8 := (blk_cell BK2.out 8).trans rfl; have z9 := (blk_cell BK2.out 9).trans rfl; have z10 := (blk_cell BK2.out 10).trans rfl; have z11 := (blk_cell BK2.out 11).trans rfl) | (go_at_call 7; refine (uL13_Small.calls 400 dn dl A c l _ w2 (Kd.C_below HR.out HB2.out) HC.out HSM.out).mono ?_; rintro e w3 ⟨rfl, hb⟩; have HB3 := Aside0.mk (below_step HB2.out hb); have BK3 := Aside0.mk (blk_below BK2.out hb); clear hb z0 z1 z2 z3 z4 z5 z6 z7 z8 z9 z10 z11; have z0 := (blk_cell BK3.out 0).trans rfl; have z1 := (blk_cell BK3.out 1).trans rfl; have z2 := (blk_cell BK3.out 2).trans rfl; have z3 := (blk_cell BK3.out 3).trans rfl; have z4 := (blk_cell BK3.out 4).trans rfl; have z5 := (blk_cell BK3.out 5).trans rfl; have z6 := (blk_cell BK3.out 6).trans rfl; have z7 := (blk_cell BK3.out 7).trans rfl; have z8 := (blk_cell BK3.out 8).trans rfl; have z9 := (blk_cell BK3.out 9).trans rfl; have z10 := (blk_cell BK3.out 10).trans rfl; have z11 := (blk_cell BK3.out 11).trans rfl))
    go_ret
    exact ⟨rfl, HB3.out⟩
theorem CodeCuts.walk (w : World) (cs0 : Array Value) (x0 : (Int × Int × Int × ByteArray × (Int × Int × Bool × Int × Bool) × (ByteArray × Int × (List S61)))) (a1 : Int) (a2 : Int)
    (hk0 : Kd.K (Kd.pair (Kd.int .i64) (Kd.pair (Kd.int .i64) (Kd.pair (Kd.int .i64) (Kd.pair Kd.string (Kd.pair (Kd.pair (Kd.int .i64) (Kd.pair (Kd.int .i64) (Kd.pair Kd.bool (Kd.pair (Kd.int .i64) Kd.bool)))) (Kd.pair Kd.string (Kd.pair (Kd.int .i64) (Kd.slice 61 k61)))))))) w x0 cs0.toList) (ok0 : (fun x : Int × Int × Int × ByteArray × (Int × Int × Bool × Int × Bool) × (ByteArray × Int × (List S61)) => (fun x => (Lit.int .i64 x).wf = true) x.1 ∧ (fun x => (Lit.int .i64 x).wf = true) x.2.1 ∧ (fun x => (Lit.int .i64 x).wf = true) x.2.2.1 ∧ (fun x => x.size ≤ maxLen) x.2.2.2.1 ∧ (fun x : Int × Int × Bool × Int × Bool => (fun x => (Lit.int .i64 x).wf = true) x.1 ∧ (fun x => (Lit.int .i64 x).wf = true) x.2.1 ∧ (fun _ => True) x.2.2.1 ∧ (fun x => (Lit.int .i64 x).wf = true) x.2.2.2.1 ∧ (fun _ => True) x.2.2.2.2) x.2.2.2.2.1 ∧ (fun x : ByteArray × Int × (List S61) => (fun x => x.size ≤ maxLen) x.1 ∧ (fun x => (Lit.int .i64 x).wf = true) x.2.1 ∧ (fun xs => xs.length ≤ maxLen ∧ ∀ x ∈ xs, (fun s : S61 => (fun x : ByteArray × ByteArray × Int × S59 × S59 × Int => (fun x => x.size ≤ maxLen) x.1 ∧ (fun x => x.size ≤ maxLen) x.2.1 ∧ (fun x => (Lit.int .i64 x).wf = true) x.2.2.1 ∧ (fun s : S59 => (fun x : Int × Int × Int × Int => (fun x => (Lit.int .i64 x).wf = true) x.1 ∧ (fun x => (Lit.int .i64 x).wf = true) x.2.1 ∧ (fun x => (Lit.int .i64 x).wf = true) x.2.2.1 ∧ (fun x => (Lit.int .i64 x).wf = true) x.2.2.2) (s.f0, (s.f1, (s.f2, s.f3)))) x.2.2.2.1 ∧ (fun s : S59 => (fun x : Int × Int × Int × Int => (fun x => (Lit.int .i64 x).wf = true) x.1 ∧ (fun x => (Lit.int .i64 x).wf = true) x.2.1 ∧ (fun x => (Lit.int .i64 x).wf = true) x.2.2.1 ∧ (fun x => (Lit.int .i64 x).wf = true) x.2.2.2) (s.f0, (s.f1, (s.f2, s.f3)))) x.2.2.2.2.1 ∧ (fun x => (Lit.int .i64 x).wf = true) x.2.2.2.2.2) (s.f0, (s.f1, (s.f2, (s.f3, (s.f4, s.f5)))))) x) x.2.2) x.2.2.2.2.2) x0) (w1 : (Lit.int .u16 a1).wf = true) (w2 : (Lit.int .u8 a2).wf = true) (hTab_ : Tabs_ w) :
    Calls Tryd.prog 5 #[.agg cs0, .int .u16 a1, .int .u8 a2] w fun e w' => e = .returned (.bool true) ∧ Below w.heap.size w w' := by
  obtain ⟨a0, b1, b2, nm, ⟨x1, x2, x3, x4, x5⟩, dn, dl, l⟩ := x0
  obtain ⟨_, _, hcs, rfl, ⟨_, _, rfl, rfl, ⟨_, _, rfl, rfl, ⟨_, _, rfl, rfl, ⟨_, _, rfl, ⟨_, _, rfl, rfl, ⟨_, _, rfl, rfl, ⟨_, _, rfl, rfl, ⟨_, _, rfl, rfl, rfl⟩⟩⟩⟩, ⟨_, _, rfl, rfl, ⟨_, _, rfl, rfl, ⟨A0, c0, rfl, hc0, hr0⟩⟩⟩⟩⟩⟩⟩⟩ := hk0
  obtain rfl : cs0 = #[.int .i64 a0, .int .i64 b1, .int .i64 b2, .string nm, .int .i64 x1, .int .i64 x2, .bool x3, .int .i64 x4, .bool x5, .string dn, .int .i64 dl, .slice A0 l.length c0] := by
    rw [← Array.toList_inj]
    exact hcs
  obtain ⟨_, _, o2, _, ⟨p1, p2, _, p4, _⟩, _⟩ := ok0
  exact CodeCuts.go a0 b1 b2 nm x1 x2 x3 x4 x5 dn dl A0 c0 l a1 a2 w hr0 hc0 hTab_ (bounds_i64 o2) (bounds_i64 p1) (bounds_i64 p2) (bounds_i64 p4) (bounds_u16 w1) (bounds_u8 w2)
end Go.Proofs.YtcgpbakimkhdpaaDoor.Walk
end
