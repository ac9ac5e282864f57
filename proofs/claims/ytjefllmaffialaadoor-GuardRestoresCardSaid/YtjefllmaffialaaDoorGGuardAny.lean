/- guard: the steps, whatever the party. -/
import Derived.Test.YtjefllmaffialaaDoorGAwakeGuard
namespace Go.Proofs.YtjefllmaffialaaDoor.Q
open Go.RowKit Go.Shelf Go.Proofs.YtjefllmaffialaaDoorW.PrintWords Go.Proofs.YtjefllmaffialaaDoorW.PrintLast Go.Proofs.YtjefllmaffialaaDoorW.PrintMore
set_option linter.unusedVariables false
set_option linter.unusedSimpArgs false

theorem few_l0 (l : List S37) (hl : l.length ≤ 70) : ∀ d j : Nat, j + d = l.length → ∃ r, usufructlaw12_few.l0 (d + 2) l (j : Int) = some r ∧ (r = true → ∀ m (h : m < l.length), j ≤ m → l[m].f0.size ≤ 100) := by
  intro d
  induction d with
  | zero =>
    intro j h
    unfold usufructlaw12_few.l0
    rw [if_neg (by omega)]
    exact ⟨true, rfl, fun _ m h1 h2 => by omega⟩
  | succ d ih =>
    intro j h
    unfold usufructlaw12_few.l0
    have hj : j < l.length := by omega
    rw [if_pos (by omega), if_pos (by omega)]
    have hx : rd_T37 l (j : Int) = l[j] := by
      unfold rd_T37
      rw [Int.toNat_natCast, List.getD_eq_getElem?_getD, List.getElem?_eq_getElem hj]
      rfl
    rw [hx]
    by_cases hs : (l[j].f0.size : Int) > 100
    · rw [if_pos hs]
      exact ⟨false, rfl, fun h => by cases h⟩
    · rw [if_neg hs, show wrap64 ((j : Int) + 1) = ((j + 1 : Nat) : Int) by unfold wrap64; omega]
      obtain ⟨r, hr, hm⟩ := ih (j + 1) (by omega)
      refine ⟨r, hr, fun h m h1 h2 => ?_⟩
      by_cases e : m = j
      · subst e; omega
      · exact hm h m h1 (by omega)
theorem few_f (l : List S37) : ∃ k r, usufructlaw12_few.f k l = some r ∧ (r = true → ∀ q ∈ l, q.f0.size < 1000000) := by
  by_cases hl : l.length ≤ 70
  · obtain ⟨r, hr, hm⟩ := few_l0 l hl l.length 0 (by omega)
    refine ⟨l.length + 2, r, ?_, fun h q hq => ?_⟩
    · unfold usufructlaw12_few.f
      rw [if_neg (by omega)]
      exact hr
    · obtain ⟨m, hm1, rfl⟩ := List.getElem_of_mem hq
      have := hm h m hm1 (Nat.zero_le _)
      omega
  · refine ⟨1, false, ?_, fun h => by cases h⟩
    unfold usufructlaw12_few.f
    rw [if_pos (by omega)]

abbrev Act4 := Int × Int × Int × Int
def kA : Kd Act4 := Kd.pair (Kd.int .i64) (Kd.pair (Kd.int .i64) (Kd.pair (Kd.int .i64) (Kd.int .i64)))
theorem kA_open {w : World} {x : Act4} {cs : List Value} (h : kA.K w x cs) : cs = [.int .i64 x.1, .int .i64 x.2.1, .int .i64 x.2.2.1, .int .i64 x.2.2.2] := by
  obtain ⟨_, _, rfl, rfl, ⟨_, _, rfl, rfl, ⟨_, _, rfl, rfl, rfl⟩⟩⟩ := h
  exact rfl
def rdA (xs : List Act4) (i : Int) : Act4 := xs.getD i.toNat (0, 0, 0, 0)
theorem at_A {w : World} {A : Option Addr} {n : Nat} {xs : List Act4} (h : Kd.C kA w A n xs) (i : Int) (h0 : 0 ≤ i) (h1 : i < n) : ∃ ad, A = some ad ∧ w.cell? (ad.add (i.toNat * 4)) = some (.int .i64 (rdA xs i).1) ∧ w.cell? ⟨(ad.add (i.toNat * 4)).block, (ad.add (i.toNat * 4)).off + 1, none⟩ = some (.int .i64 (rdA xs i).2.1) ∧ w.cell? ⟨(ad.add (i.toNat * 4)).block, (ad.add (i.toNat * 4)).off + 2, none⟩ = some (.int .i64 (rdA xs i).2.2.1) ∧ w.cell? ⟨(ad.add (i.toNat * 4)).block, (ad.add (i.toNat * 4)).off + 3, none⟩ = some (.int .i64 (rdA xs i).2.2.2) := by
  obtain ⟨ad, c, e, _, hK, hc0⟩ := Kd.C_get h (0, 0, 0, 0) i h0 h1
  have hc : ∀ j u, c[j]? = some u → w.cell? (ad.add (i.toNat * 4 + j)) = some u := hc0
  obtain rfl := kA_open hK
  exact ⟨ad, e, hc 0 _ rfl, by rw [← add_field _ _ 1 (by omega)]; exact hc 1 _ rfl, by rw [← add_field _ _ 2 (by omega)]; exact hc 2 _ rfl, by rw [← add_field _ _ 3 (by omega)]; exact hc 3 _ rfl⟩

def FlOk (gs : List Gt) : Prop := ∀ x ∈ gs, 0 ≤ x.fl ∧ x.fl ≤ x.p.f1
theorem IsGd.ok {w0 W : World} {g : Nat} {gs : List Gt} (h : IsGd w0 W g gs) : ∀ x ∈ gs, okP x.p := by
  obtain ⟨v, m, n, D, h1, h2, h3, h4, h5⟩ := h
  exact fun x hx => (h5 x hx).2
theorem IsGd.at_ {w0 W : World} {g : Nat} {gs : List Gt} (h : IsGd w0 W g gs) (hf : FlOk gs) (j : Nat) (hj : j < gs.length) : 0 ≤ gs[j].fl ∧ gs[j].fl ≤ 10000 := by
  have h1 := h.ok _ (List.getElem_mem hj)
  have h2 := hf _ (List.getElem_mem hj)
  unfold okP at h1
  omega
theorem set_map (gs : List Gt) (j : Nat) (hj : j < gs.length) (b : Nat) (f : Int) : (gs.set j ⟨b, gs[j].p, f⟩).map Gt.p = gs.map Gt.p := by
  rw [List.map_set]
  apply List.ext_getElem?
  intro m
  rw [List.getElem?_set]
  split
  · rename_i h
    subst h
    rw [List.length_map, if_pos hj, List.getElem?_map, List.getElem?_eq_getElem hj]
    rfl
  · rfl
theorem set_ok {gs : List Gt} (h : FlOk gs) (j : Nat) (x : Gt) (hx : 0 ≤ x.fl ∧ x.fl ≤ x.p.f1) : FlOk (gs.set j x) := by
  intro y hy
  rcases List.mem_or_eq_of_mem_set hy with hy | rfl
  · exact h y hy
  · exact hx
theorem in_or_out (n : Nat) (p : Int) : outR n p ∨ (0 ≤ p ∧ p.toNat < n) := by
  unfold outR
  omega
/-- What Send answers there. -/
def SendR (w0 W : World) (gs : List Gt) (p now er : Int) : Prop := (outR gs.length p ∧ er = 7) ∨ ∃ (j : Nat) (hj : j < gs.length) (k : Bk), p.toNat = j ∧ 0 ≤ p ∧ IsB w0 W gs[j].b k ∧ er = mayE gs[j] k now
theorem SendR.ex {w0 W : World} {g : Nat} {gs : List Gt} (h : IsGd w0 W g gs) (p now : Int) : ∃ er, SendR w0 W gs p now er := by
  rcases in_or_out gs.length p with ho | ⟨h0, h1⟩
  · exact ⟨7, .inl ⟨ho, rfl⟩⟩
  · obtain ⟨_, _, _, _, _, _, ⟨k, hk⟩, _⟩ := h.row p.toNat h1 p rfl h0
    exact ⟨_, .inr ⟨p.toNat, h1, k, rfl, h0, hk, rfl⟩⟩
theorem mayE_open {x : Gt} {k : Bk} {now : Int} (h : mayE x k now = 0) : x.fl < x.p.f1 ∧ stB k now ≠ 1 := by
  unfold mayE at h
  by_cases h1 : x.p.f1 ≤ x.fl
  · rw [if_pos h1] at h
    omega
  · rw [if_neg h1] at h
    by_cases h2 : mayB k now = true
    · refine ⟨by omega, fun h3 => ?_⟩
      unfold mayB at h2
      rw [h3, if_neg (by decide), if_neg (by decide)] at h2
      cases h2
    · rw [if_neg h2] at h
      omega
theorem g_State (w0 w : World) (g : Nat) (gs : List Gt) (p now er : Int) (h : IsGd w0 w g gs) (hb : Below w0.heap.size w0 w) (hs : SendR w0 w gs p now er) :
    Calls Tryd.prog 8 #[.pointer (some ⟨g, 0, none⟩), .int .i64 p, .int .i64 now] w fun e w' => ∃ s, e = .returned (.int .i64 s) ∧ IsGd w0 w' g gs ∧ Below w0.heap.size w0 w' ∧ SendR w0 w' gs p now er ∧ (er = 0 → s ≠ 1) ∧ K31 w w' := by
  rcases hs with ⟨ho, rfl⟩ | ⟨j, hj, k, hpj, h0, hk, rfl⟩
  · refine (guard_State_none w0 w g gs p now h ho).mono ?_
    rintro e w' ⟨rfl, hb'⟩
    exact ⟨0, rfl, h.below hb', hb.trans (hb'.mono hb.size), .inl ⟨ho, rfl⟩, (fun _ => by decide), K31.of_below hb'⟩
  · refine (guard_State_some w0 w g gs j hj p hpj h0 now h hb).mono ?_
    rintro e w' ⟨k', rfl, hk1, hk0, hg, hb', hq⟩
    obtain rfl := hk.uniq hk0
    exact ⟨_, rfl, hg, hb', .inr ⟨j, hj, k, hpj, h0, hk1, rfl⟩, (fun he => (mayE_open he).2), hq⟩
theorem g_Send (w0 w : World) (g : Nat) (gs : List Gt) (p now er : Int) (h : IsGd w0 w g gs) (hb : Below w0.heap.size w0 w) (hf : FlOk gs) (hs : SendR w0 w gs p now er) :
    Calls Tryd.prog 9 #[.pointer (some ⟨g, 0, none⟩), .int .i64 p, .int .i64 now] w fun e w' => ∃ gs', e = .returned (.int .i64 er) ∧ IsGd w0 w' g gs' ∧ Below w0.heap.size w0 w' ∧ gs'.map Gt.p = gs.map Gt.p ∧ FlOk gs' ∧ K31 w w' := by
  rcases hs with ⟨ho, rfl⟩ | ⟨j, hj, k, hpj, h0, hk, rfl⟩
  · refine (guard_Send_none w0 w g gs p now h ho).mono ?_
    rintro e w' ⟨rfl, hb'⟩
    exact ⟨gs, rfl, h.below hb', hb.trans (hb'.mono hb.size), rfl, hf, K31.of_below hb'⟩
  · refine (guard_Send_some w0 w g gs j hj p hpj h0 now h hb (h.at_ hf j hj) k hk).mono ?_
    rintro e w' ⟨rfl, hg, hb', hq⟩
    unfold sendG at hg
    have hx := hf _ (List.getElem_mem hj)
    by_cases he : mayE gs[j] k now = 0
    · rw [if_pos he] at hg
      have := (mayE_open he).1
      exact ⟨_, rfl, hg, hb', set_map gs j hj _ _, set_ok hf j _ (by dsimp only; omega), hq⟩
    · rw [if_neg he] at hg
      exact ⟨gs, rfl, hg, hb', rfl, hf, hq⟩
theorem g_Over (w0 w : World) (g : Nat) (gs : List Gt) (p now how : Int) (h : IsGd w0 w g gs) (hb : Below w0.heap.size w0 w) (hf : FlOk gs) :
    Calls Tryd.prog 10 #[.pointer (some ⟨g, 0, none⟩), .int .i64 p, .int .i64 now, .int .i64 how] w fun e w' => ∃ er gs', e = .returned (.int .i64 er) ∧ IsGd w0 w' g gs' ∧ Below w0.heap.size w0 w' ∧ gs'.map Gt.p = gs.map Gt.p ∧ FlOk gs' ∧ K31 w w' := by
  rcases in_or_out gs.length p with ho | ⟨h0, hj⟩
  · refine (guard_Over_none w0 w g gs p now how h ho).mono ?_
    rintro e w' ⟨rfl, hb'⟩
    exact ⟨7, gs, rfl, h.below hb', hb.trans (hb'.mono hb.size), rfl, hf, K31.of_below hb'⟩
  · refine (guard_Over_some w0 w g gs p.toNat hj p rfl h0 now how h hb (h.at_ hf _ hj)).mono ?_
    rintro e w' ⟨rfl, hg, hb', hq⟩
    unfold overG at hg
    have hx := hf _ (List.getElem_mem hj)
    by_cases he : overE gs[p.toNat] how = 0
    · rw [if_pos he] at hg
      have hne : gs[p.toNat].fl ≠ 0 := fun h9 => by
        unfold overE at he
        rw [if_pos h9] at he
        split at he <;> omega
      exact ⟨_, _, rfl, hg, hb', set_map gs _ hj _ _, set_ok hf _ _ (by dsimp only; omega), hq⟩
    · rw [if_neg he] at hg
      exact ⟨_, gs, rfl, hg, hb', rfl, hf, hq⟩
theorem g_Restore (w0 w : World) (g : Nat) (gs : List Gt) (p f : Int) (h : IsGd w0 w g gs) (hb : Below w0.heap.size w0 w) (hf : FlOk gs) :
    Calls Tryd.prog 11 #[.pointer (some ⟨g, 0, none⟩), .int .i64 p, .int .i64 f] w fun e w' => ∃ er gs', e = .returned (.int .i64 er) ∧ IsGd w0 w' g gs' ∧ Below w0.heap.size w0 w' ∧ gs'.map Gt.p = gs.map Gt.p ∧ FlOk gs' ∧ K31 w w' := by
  rcases in_or_out gs.length p with ho | ⟨h0, hj⟩
  · refine (guard_Restore_none w0 w g gs p f h ho).mono ?_
    rintro e w' ⟨rfl, hb'⟩
    exact ⟨7, gs, rfl, h.below hb', hb.trans (hb'.mono hb.size), rfl, hf, K31.of_below hb'⟩
  · by_cases hn : f < 0 ∨ gs[p.toNat].p.f1 < f
    · refine (guard_Restore_no w0 w g gs p.toNat hj p rfl h0 f h hb hn).mono ?_
      rintro e w' ⟨rfl, hg, hb', hq⟩
      exact ⟨1, gs, rfl, hg, hb', rfl, hf, hq⟩
    · refine (guard_Restore_ok w0 w g gs p.toNat hj p rfl h0 f h hb (by omega) (by omega)).mono ?_
      rintro e w' ⟨b', rfl, hg, _, hb', hq⟩
      exact ⟨0, _, rfl, hg, hb', set_map gs _ hj _ _, set_ok hf _ _ (by dsimp only; omega), hq⟩
end Go.Proofs.YtjefllmaffialaaDoor.Q
