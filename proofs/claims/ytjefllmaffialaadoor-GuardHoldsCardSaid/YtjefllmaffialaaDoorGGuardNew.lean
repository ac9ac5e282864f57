/- guard: New. -/
import Derived.Test.YtjefllmaffialaaDoorGGuardRight
namespace Go.Proofs.YtjefllmaffialaaDoor.Q
open Go.RowKit Go.Shelf Go.Maps Go.Proofs.YtjefllmaffialaaDoorW.PrintWords Go.Proofs.YtjefllmaffialaaDoorW.PrintLast Go.Proofs.YtjefllmaffialaaDoorW.PrintMore
set_option linter.unusedVariables false
set_option linter.unusedSimpArgs false

/-- New breakers. -/
def Fr (w0 W : World) (gs : List Gt) : Prop := ∀ x ∈ gs, IsB w0 W x.b (freshK x.p)
/-- What is handed back. -/
def NewGd (w W : World) (l : List S37) (p : Value) (e : Int) : Prop := if e = 0 then ∃ g gs, p = .pointer (some ⟨g, 0, none⟩) ∧ IsGd w W g gs ∧ gs.map Gt.p = l ∧ (∀ x ∈ gs, x.fl = 0) ∧ Fr w W gs else p = .pointer none
theorem NewGd.no {w W : World} {l : List S37} {e : Int} (h : e ≠ 0) : NewGd w W l (.pointer none) e := by
  unfold NewGd
  rw [if_neg h]
theorem NewGd.ok {w W : World} {l : List S37} {g : Nat} {gs : List Gt} (h : IsGd w W g gs) (hp : gs.map Gt.p = l) (hf : ∀ x ∈ gs, x.fl = 0) (hr : Fr w W gs) : NewGd w W l (.pointer (some ⟨g, 0, none⟩)) 0 := by
  unfold NewGd
  rw [if_pos rfl]
  exact ⟨g, gs, rfl, h, hp, hf, hr⟩
def One (l : List S37) (at_ e : Int) : Prop := l.length = 1 → (∀ x ∈ l, rightP x = true) → e = 0 ∧ at_ = -1
def MapE (W : World) (g : Nat) : Prop := ∃ v m, W.heap[g]? = some (.cells #[v, .map (some m)] 43 (0, 0)) ∧ HasMap W m 0 (.map [])
theorem HasMap.uniq {W : World} {m n n' : Nat} {D D' : DataW Unit} (h : HasMap W m n D) (h' : HasMap W m n' D') : D = D' := by
  obtain ⟨es, clock, hb, F, hs, hD⟩ := h
  obtain ⟨es', clock', hb', F', hs', hD'⟩ := h'
  rw [hb] at hb'
  simp at hb'
  rw [hD, hD', hb'.1]
theorem MapE.D {W : World} {g m n : Nat} {v : Value} {D : DataW Unit} (h : MapE W g) (hg : W.heap[g]? = some (.cells #[v, .map (some m)] 43 (0, 0))) (hm : HasMap W m n D) : D = .map [] := by
  obtain ⟨v', m', hg', hm'⟩ := h
  have e := hg.symm.trans hg'
  simp at e
  obtain ⟨_, rfl⟩ := e
  exact hm.uniq hm'
theorem rightP_new {p : S37} (h : rightP p = true) : newOk p.f2 p.f3 p.f4 = true := by
  have h := rightP_ok h
  unfold okP at h
  exact h.2.2
/-- A guard, all told. -/
def IsGdX (w0 W : World) (g : Nat) (gs : List Gt) (v : Value) (m n : Nat) (D : DataW Unit) : Prop :=
  W.heap[g]? = some (.cells #[v, .map (some m)] 43 (0, 0)) ∧ w0.heap.size ≤ g ∧ (Kd.raw 7).R 49 W w0.heap.size (fun _ => True) v (gs.map rowg) ∧ (HasMap W m n D ∧ w0.heap.size ≤ m) ∧ ∀ x ∈ gs, (∃ k, IsB w0 W x.b k) ∧ okP x.p
theorem IsGd.x {w0 W : World} {g : Nat} {gs : List Gt} (h : IsGd w0 W g gs) : ∃ v m n D, IsGdX w0 W g gs v m n D ∧ n ≤ gs.length := by
  obtain ⟨v, m, n, D, h1, h2, h3, h4, h5⟩ := h
  exact ⟨v, m, n, D, ⟨h1, h2, h3, ⟨h4.1, h4.2.2⟩, h5⟩, h4.2.1⟩
theorem IsGdX.gd {w0 W : World} {g : Nat} {gs : List Gt} {v : Value} {m n : Nat} {D : DataW Unit} (h : IsGdX w0 W g gs v m n D) (hn : n ≤ gs.length) : IsGd w0 W g gs := by
  obtain ⟨h1, h2, h3, h4, h5⟩ := h
  exact ⟨v, m, n, D, h1, h2, h3, ⟨h4.1, hn, h4.2⟩, h5⟩
theorem IsGdX.below {w0 W W' : World} {g : Nat} {gs : List Gt} {v : Value} {m n : Nat} {D : DataW Unit} (h : IsGdX w0 W g gs v m n D) (hb : Below W.heap.size W W') : IsGdX w0 W' g gs v m n D := by
  obtain ⟨h1, h2, h3, h4, h5⟩ := h
  exact ⟨blk_below h1 hb, h2, Kd.R_below h3 hb, ⟨h4.1.step (hb.block m h4.1.lt), h4.2⟩, fun x hx => ⟨(h5 x hx).1.imp (fun k hk => hk.below hb), (h5 x hx).2⟩⟩
theorem R_ne_map {W : World} {m n base : Nat} {D : DataW Unit} {ok : Nat → Prop} {v : Value} {xs : List (List Value)} (h : (Kd.raw 7).R 49 W base ok v xs) (hm : HasMap W m n D) : (Kd.raw 7).R 49 W base (fun k => ok k ∧ k ≠ m) v xs :=
  Kd.R_mono (Kd.R_bound h) (fun k hk => ⟨hk.1, fun e => by
    obtain ⟨_, _, _, q, _, cells, hc⟩ := hk
    exact hm.ne hc e.symm⟩)
theorem IsGdX.mapput {w0 W W' : World} {g : Nat} {gs : List Gt} {v : Value} {m n n' : Nat} {D D' : DataW Unit} (h : IsGdX w0 W g gs v m n D) (hg : W.grownBy W' (some m)) (hm' : HasMap W' m n' D') : IsGdX w0 W' g gs v m n' D' := by
  obtain ⟨h1, h2, h3, h4, h5⟩ := h
  refine ⟨blk_grown h1 hg (fun e => h4.1.ne h1 (by injection e with e; exact e.symm)), h2, Kd.R_mono (Kd.R_grown (R_ne_map h3 h4.1) hg (fun k hk e => hk.2 (by injection e))) (fun _ hk => hk.1), ⟨hm', h4.2⟩, fun x hx => ⟨?_, (h5 x hx).2⟩⟩
  obtain ⟨k, hk⟩ := (h5 x hx).1
  exact ⟨k, blk_grown hk.1 hg (fun e => h4.1.ne hk.1 (by injection e with e; exact e.symm)), hk.2⟩
theorem IsGdX.push {w0 W W' : World} {g : Nat} {gs : List Gt} {v v' : Value} {m n : Nat} {D : DataW Unit} (h : IsGdX w0 W g gs v m n D) (x : Gt) (k : Bk) (hB : IsB w0 W x.b k) (hp : okP x.p) (hg : W.grownBy W' v.ownBlock) (hR : (Kd.raw 7).R 49 W' w0.heap.size (fun _ => True) v' (gs.map rowg ++ [rowg x])) :
    IsGdX w0 (W'.setCell ⟨g, 0, none⟩ v') g (gs ++ [x]) v' m n D := by
  obtain ⟨h1, h2, h3, h4, h5⟩ := h
  have hg' := blk_grown h1 hg (Kd.R_ne h3 h1 (by decide))
  have hmv : some m ≠ v.ownBlock := fun e => (R_ne_map h3 h4.1).1 m e.symm |>.2 rfl
  have hm' : HasMap W' m n D := h4.1.step (hg.block m h4.1.lt hmv)
  have hbk : ∀ b k, IsB w0 W b k → IsB w0 (W'.setCell ⟨g, 0, none⟩ v') b k := fun b k hb =>
    ⟨blk_far (blk_grown hb.1 hg (Kd.R_ne h3 hb.1 (by decide))) (blk_ne (blk_grown hb.1 hg (Kd.R_ne h3 hb.1 (by decide))) hg' (by decide)) v', hb.2⟩
  refine ⟨blk_put hg' 0 v' rfl, h2, ?_, ⟨hm'.step (Below.heap_setCell _ _ _ m (hm'.ne hg')), h4.2⟩, fun y hy => ?_⟩
  · rw [List.map_append]
    exact Kd.R_set hR hg' (by decide) 0 v'
  · rcases List.mem_append.1 hy with hy | hy
    · exact ⟨(h5 y hy).1.imp (fun k hk => hbk _ k hk), (h5 y hy).2⟩
    · rw [List.mem_singleton] at hy
      subst hy
      exact ⟨⟨k, hbk _ k hB⟩, hp⟩
theorem Fr.below {w0 W W' : World} {gs : List Gt} (f : Fr w0 W gs) (hb : Below W.heap.size W W') : Fr w0 W' gs := fun x hx => (f x hx).below hb
theorem Fr.mapput {w0 W W' : World} {g : Nat} {gs : List Gt} {v : Value} {m n : Nat} {D : DataW Unit} (h : IsGdX w0 W g gs v m n D) (f : Fr w0 W gs) (hg : W.grownBy W' (some m)) : Fr w0 W' gs := fun x hx =>
  ⟨blk_grown (f x hx).1 hg (fun e => h.2.2.2.1.1.ne (f x hx).1 (by injection e with e; exact e.symm)), (f x hx).2⟩
theorem Fr.push {w0 W W' : World} {g : Nat} {gs : List Gt} {v : Value} {m n : Nat} {D : DataW Unit} (h : IsGdX w0 W g gs v m n D) (f : Fr w0 W gs) (x : Gt) (hB : IsB w0 W x.b (freshK x.p)) (hg : W.grownBy W' v.ownBlock) (v' : Value) : Fr w0 (W'.setCell ⟨g, 0, none⟩ v') (gs ++ [x]) := by
  have hg' := blk_grown h.1 hg (Kd.R_ne h.2.2.1 h.1 (by decide))
  have hbk : ∀ b k, IsB w0 W b k → IsB w0 (W'.setCell ⟨g, 0, none⟩ v') b k := fun b k hb =>
    ⟨blk_far (blk_grown hb.1 hg (Kd.R_ne h.2.2.1 hb.1 (by decide))) (blk_ne (blk_grown hb.1 hg (Kd.R_ne h.2.2.1 hb.1 (by decide))) hg' (by decide)) v', hb.2⟩
  intro y hy
  rcases List.mem_append.1 hy with hy | hy
  · exact hbk _ _ (f y hy)
  · rw [List.mem_singleton] at hy
    subst hy
    exact hbk _ _ hB
theorem info49 : (Tryd.prog.info? 49).map (fun i => (i.zero, i.size, i.bytes)) = some (some (.agg #[.pointer none, .string ⟨#[]⟩, .int .i64 0, .int .i64 0, .int .i64 0, .int .i64 0, .int .i64 0]), 7, 64) := by kernel_rfl

set_option maxRecDepth 100000 in
set_option maxHeartbeats 4000000 in
theorem guard_New.calls (A : Option Addr) (c : Nat) (l : List S37) (w : World) (hTab_ : Tabs_ w) (hC : Kd.C k37 w A l.length l) (hc : l.length ≤ c) (hs : ∀ q ∈ l, q.f0.size < 1000000) (hl : l.length < 1000000) :
    Calls Tryd.prog 7 #[.slice A l.length c] w fun e w' => ∃ p at_ er, e = .returned (.tuple #[p, .int .i64 at_, .int .i64 er]) ∧ NewGd w w' l p er ∧ One l at_ er ∧ Below w.heap.size w w' := by
  have HTAB_ := Aside0.mk hTab_
  have HR := Aside0.mk hC
  have HSZ := Aside0.mk hs
  have HL := Aside0.mk hl
  clear hTab_ hC hc hs hl
  by_cases h64 : l.length > 64
  · have hd : decide ((64 : Int) < (l.length : Int)) = true := decide_eq_true (by omega)
    have HON := Aside0.mk (show One l 64 8 from fun h => by omega)
    go_enter Tryd.func7, Tryd.ntmps7
    go_wp2
    go_ret3
    exact ⟨_, _, _, rfl, NewGd.no (by decide), HON.out, Below.refl _ _⟩
  have hd : decide ((64 : Int) < (l.length : Int)) = false := decide_eq_false (by omega)
  have H64 := Aside0.mk h64
  clear h64
  have hmm := @run_makeMap Tryd.prog
  go_enter Tryd.func7, Tryd.ntmps7
  go_upto_region 4 with (fail)
  have hg1 := blk_new (w.alloc (.map #[] 0)) (.cells #[.slice none 0 0, .map (some w.heap.size)] 43)
  rw [World.size_alloc] at hg1
  have hm1 : HasMap ((w.alloc (.map #[] 0)).alloc (.cells #[.slice none 0 0, .map (some w.heap.size)] 43)) w.heap.size 0 (.map []) := World.ownsMap.alloc (World.ownsMap_made _ _ _ _) _
  have hb1 : Below w.heap.size w ((w.alloc (.map #[] 0)).alloc (.cells #[.slice none 0 0, .map (some w.heap.size)] 43)) := ((Below.refl w.heap.size w).alloc (Nat.le_refl _) _).alloc (by simp) _
  generalize (w.alloc (.map #[] 0)).alloc (.cells #[.slice none 0 0, .map (some w.heap.size)] 43) = W1 at *
  obtain ⟨g, hgg⟩ : ∃ g, w.heap.size + 1 = g := ⟨_, rfl⟩
  rw [hgg] at hg1 ⊢
  have HG1 := Aside0.mk (show IsGd w W1 g [] from IsGdX.gd ⟨hg1, by omega, Kd.R_nil _ _ _ _ _, ⟨hm1, Nat.le_refl _⟩, fun x hx => (by cases hx)⟩ (Nat.zero_le _))
  have HE1 := Aside0.mk (show MapE W1 g from ⟨_, _, hg1, hm1⟩)
  have HB1 := Aside0.mk hb1
  clear hg1 hm1 hb1 hgg hmm
  go_wp2
  go_loopw [2, 15] (fun v2 v15 W => v2 = .pointer (some ⟨g, 0, none⟩) ∧ ∃ (j : Nat) (gs : List Gt), j ≤ l.length ∧ v15 = .int .i64 (j : Int) ∧ Aside0 (IsGd w W g gs) ∧ Aside0 (gs.map Gt.p = l.take j) ∧ Aside0 (∀ x ∈ gs, x.fl = 0) ∧ Aside0 (j = 0 → MapE W g) ∧ Aside0 (Fr w W gs) ∧ Aside0 (Below w.heap.size w W)) (fun _ v15 _ => l.length - (intOf v15).toNat)
  case atStart => exact ⟨rfl, 0, [], Nat.zero_le _, rfl, HG1, ⟨rfl⟩, ⟨fun x hx => (by cases hx)⟩, ⟨fun _ => HE1.out⟩, ⟨fun x hx => (by cases hx)⟩, HB1⟩
  case round =>
    clear HG1 HE1 HB1
    obtain ⟨rfl, j, gs, hj, rfl, HG, HPS, HFL, HE, HFR, HB⟩ := hrel
    by_cases hlt : j < l.length
    rotate_left
    · have hjl : j = l.length := by omega
      subst hjl
      have hd1 : decide ((l.length : Int) < (l.length : Int)) = false := decide_eq_false (by omega)
      have hp := HPS.out
      rw [List.take_length] at hp
      have HP := Aside0.mk hp
      clear hp
      go_wp2
      go_ret3
      exact ⟨_, _, _, rfl, NewGd.ok HG.out HP.out HFL.out HFR.out, fun _ _ => ⟨rfl, rfl⟩, HB.out⟩
    obtain ⟨ad, e, x0, x1, x2, x3, x4⟩ := at_T37 HR.out (j : Int) (by omega) (by omega)
    cases e
    have HX := Aside0.mk (show rd_T37 l (j : Int) = l[j] by
      unfold rd_T37
      rw [Int.toNat_natCast, List.getD_eq_getElem?_getD, List.getElem?_eq_getElem hlt]
      rfl)
    have HMEM := Aside0.mk (show l[j] ∈ l from List.getElem_mem hlt)
    have HSQ := Aside0.mk (HSZ.out _ (List.getElem_mem hlt))
    have HTK := Aside0.mk (List.take_succ_eq_append_getElem hlt)
    replace x0 := (HB.out.cell (World.block_lt_of_cell? w _ x0)).trans x0
    replace x1 := (HB.out.cell (World.block_lt_of_cell? w _ x1)).trans x1
    replace x2 := (HB.out.cell (World.block_lt_of_cell? w _ x2)).trans x2
    replace x3 := (HB.out.cell (World.block_lt_of_cell? w _ x3)).trans x3
    replace x4 := (HB.out.cell (World.block_lt_of_cell? w _ x4)).trans x4
    rw [HX.out] at x0 x1 x2 x3 x4
    clear HX
    generalize l[j] = pp at *
    have HLT := Aside0.mk hlt
    obtain ⟨i, hi⟩ : ∃ i : Int, (j : Int) = i := ⟨_, rfl⟩
    have HI := Aside0.mk hi
    have hp1 : (0 ≤ i) = True := eq_true (by omega)
    have hq1 : (i < (l.length : Int)) = True := eq_true (by omega)
    have hd1 : decide (i < (l.length : Int)) = true := decide_eq_true (by omega)
    have HK := Aside0.mk (show wrap64 (i + 1) = ((j + 1 : Nat) : Int) by unfold wrap64; have := HL.out; omega)
    rw [hi] at x0 x1 x2 x3 x4 ⊢
    clear hi hlt hj
    go_upto_region 7 with (fail)
    have hz := blk_new wr (.cells #[.string pp.f0, .int .i64 pp.f1, .int .i64 pp.f2, .int .i64 pp.f3, .int .i64 pp.f4] 37)
    have hb8 : Below wr.heap.size wr (wr.alloc (.cells #[.string pp.f0, .int .i64 pp.f1, .int .i64 pp.f2, .int .i64 pp.f3, .int .i64 pp.f4] 37)) := below_alloc (Below.refl _ _) _
    clear x0 x1 x2 x3 x4
    generalize wr.alloc (.cells #[.string pp.f0, .int .i64 pp.f1, .int .i64 pp.f2, .int .i64 pp.f3, .int .i64 pp.f4] 37) = W8 at *
    obtain ⟨v, m, n, D, hx, hn⟩ := HG.out.x
    have HN := Aside0.mk (show n ≤ 64 by
      have h1 := congrArg List.length HPS.out
      rw [List.length_map, List.length_take] at h1
      have := HLT.out
      have := H64.out
      omega)
    have HNG := Aside0.mk hn
    have HD := Aside0.mk (show j = 0 → D = .map [] from fun h => (HE.out h).D hx.1 hx.2.2.2.1.1)
    have HX8 := Aside0.mk (hx.below hb8)
    have HF8 := Aside0.mk (HFR.out.below hb8)
    have HB8 := Aside0.mk (below_step HB.out hb8)
    obtain ⟨z, hzz⟩ : ∃ z, wr.heap.size = z := ⟨_, rfl⟩
    rw [hzz] at hz ⊢
    have HZ := Aside0.mk hz
    have z0 : W8.cell? ⟨z, 0, none⟩ = some (.string pp.f0) := (blk_cell hz 0).trans rfl
    have z1 : W8.cell? ⟨z, 1, none⟩ = some (.int .i64 pp.f1) := (blk_cell hz 1).trans rfl
    have z2 : W8.cell? ⟨z, 2, none⟩ = some (.int .i64 pp.f2) := (blk_cell hz 2).trans rfl
    have z3 : W8.cell? ⟨z, 3, none⟩ = some (.int .i64 pp.f3) := (blk_cell hz 3).trans rfl
    have z4 : W8.cell? ⟨z, 4, none⟩ = some (.int .i64 pp.f4) := (blk_cell hz 4).trans rfl
    clear hz hb8 hzz hx hn HG HB HFR
    have hkey := Go.WideMaps.keyOf_string_mk (P := Tryd.prog) Tryd.underlying9 (s := pp.f0) (by have := HSQ.out; unfold maxLen; omega)
    have HKEY := Aside0.mk hkey
    cases hrp : rightP pp with
    | false =>
      have HRP := Aside0.mk hrp
      have HON := Aside0.mk (show One l i 3 from fun _ h => by have := h pp HMEM.out; rw [hrp] at this; cases this)
      clear hrp hkey
      go_wp2_with (go_at_call 14; refine (guard_right.calls pp _ (HTAB_.out.below HB8.out) HSQ.out).mono ?_; rw [HRP.out]; rintro e w9 ⟨rfl, hb⟩; have HB9 := Aside0.mk (below_step HB8.out hb); clear hb)
      go_ret3
      exact ⟨_, _, _, rfl, NewGd.no (by decide), HON.out, HB9.out⟩
    | true =>
      have HRP := Aside0.mk hrp
      obtain ⟨fi, hfi⟩ : ∃ fi, findI D (.string pp.f0.data.toList) = fi := ⟨_, rfl⟩
      have HFI := Aside0.mk hfi
      clear hrp hkey
      by_cases hge : 0 ≤ fi
      · have hd2 : decide (0 ≤ fi) = true := decide_eq_true hge
        have HON := Aside0.mk (show One l i 6 from fun h1 _ => by
          have h2 := HLT.out
          have h3 := HD.out (by omega)
          rw [h3, findI_none] at hfi
          omega)
        clear hge hfi
        go_wp2_with (first | (go_at_call 14; refine (guard_right.calls pp _ (HTAB_.out.below HB8.out) HSQ.out).mono ?_; rw [HRP.out]; rintro e w9 ⟨rfl, hb⟩; have HB9 := Aside0.mk (below_step HB8.out hb); have HX9 := Aside0.mk (HX8.out.below hb); have z0 : w9.cell? ⟨z, 0, none⟩ = some (.string pp.f0) := (blk_cell (blk_below HZ.out hb) 0).trans rfl; clear hb) | (go_at_call 15; refine (guard_Find.calls g m n D v pp.f0 _ _ HX9.out.1 HX9.out.2.2.2.1.1 HKEY.out).mono ?_; rw [HFI.out]; rintro e w10 ⟨rfl, hb⟩; have HB10 := Aside0.mk (below_step HB9.out hb); clear hb))
        go_ret3
        exact ⟨_, _, _, rfl, NewGd.no (by decide), HON.out, HB10.out⟩
      have hd2 : decide (0 ≤ fi) = false := decide_eq_false hge
      clear hge hfi
      go_upto_region 11 with (first | (go_at_call 14; refine (guard_right.calls pp _ (HTAB_.out.below HB8.out) HSQ.out).mono ?_; rw [HRP.out]; rintro e w9 ⟨rfl, hb⟩; have HB9 := Aside0.mk (below_step HB8.out hb); have HX9 := Aside0.mk (HX8.out.below hb); have HF9 := Aside0.mk (HF8.out.below hb); have HZ9 := Aside0.mk (blk_below HZ.out hb); have z0 : w9.cell? ⟨z, 0, none⟩ = some (.string pp.f0) := (blk_cell (blk_below HZ.out hb) 0).trans rfl; clear hb) | (go_at_call 15; refine (guard_Find.calls g m n D v pp.f0 _ _ HX9.out.1 HX9.out.2.2.2.1.1 HKEY.out).mono ?_; rw [HFI.out]; rintro e W10 ⟨rfl, hb⟩; have HB10 := Aside0.mk (below_step HB9.out hb); have HX10 := Aside0.mk (HX9.out.below hb); have HF10 := Aside0.mk (HF9.out.below hb); have HZ10 := Aside0.mk (blk_below HZ9.out hb); clear hb))
      clear z0 z1 z2 z3 z4 hd2
      have y1 : W10.cell? ⟨g, 1, none⟩ = some (.map (some m)) := (blk_cell HX10.out.1 1).trans rfl
      have z0 : W10.cell? ⟨z, 0, none⟩ = some (.string pp.f0) := (blk_cell HZ10.out 0).trans rfl
      have hwf : (Lit.int .i64 i).wf = true := by
        have := HI.out
        have := HLT.out
        have := HL.out
        simp [Lit.wf, IntKind.min, IntKind.max, IntKind.signed, IntKind.bits]
        omega
      obtain ⟨W11, hrun, hm11, hg11⟩ := (World.ownsMap.drew HX10.out.2.2.2.1.1).update mlaw Tryd.underlying40 (by have := HN.out; unfold maxLen; omega) HKEY.out (plainElem_int (H := Unit) (e := 3) Tryd.underlying3 hwf)
      refine start_ (n := 8) (S := fun w' => w'.cell? ⟨g, 1, none⟩ = some (.map (some m)) ∧ w'.cell? ⟨z, 0, none⟩ = some (.string pp.f0)) (ds := [7]) #[false, false, false, false, false, false, false, false] (by kernel_rfl) rfl rfl ⟨y1, z0⟩ (fun hHeld => ?_)
      refine pure_ (i := 0) (N := some 30) (v := ?_) (a' := ?_) #[true, false, false, false, false, false, false, false] rfl rfl (by kernel_rfl) (fun _ _ _ h => h) (Or.inl ⟨by rfl, ?_⟩) ?_ ?_
      rotate_left
      · intro w'
        go_simp
        with_reducible rfl
      rotate_left
      · simp only [Act.put, List.setIfInBounds_toArray, List.set_cons_zero, List.set_cons_succ, i64_w, i32_w]
        rfl
      refine pure_ (i := 1) (N := some 31) (v := ?_) (a' := ?_) #[true, true, false, false, false, false, false, false] rfl rfl (by kernel_rfl) (fun _ _ _ h => h) (Or.inl ⟨by rfl, ?_⟩) ?_ ?_
      rotate_left
      · intro w'
        go_simp
        with_reducible rfl
      rotate_left
      · simp only [Act.put, List.setIfInBounds_toArray, List.set_cons_zero, List.set_cons_succ, i64_w, i32_w]
        rfl
      refine pure_ (i := 2) (N := some 32) (v := ?_) (a' := ?_) #[true, true, true, false, false, false, false, false] rfl rfl (by kernel_rfl) (fun _ _ _ h => h) (Or.inl ⟨by rfl, ?_⟩) ?_ ?_
      rotate_left
      · intro w'
        go_simp
        with_reducible rfl
      rotate_left
      · simp only [Act.put, List.setIfInBounds_toArray, List.set_cons_zero, List.set_cons_succ, i64_w, i32_w]
        rfl
      refine pure_ (i := 4) (N := some 34) (v := ?_) (a' := ?_) #[true, true, true, false, true, false, false, false] rfl rfl (by kernel_rfl) (fun _ _ _ h => h) (Or.inl ⟨by rfl, ?_⟩) ?_ ?_
      rotate_left
      · intro w'
        go_simp
        with_reducible rfl
      rotate_left
      · simp only [Act.put, List.setIfInBounds_toArray, List.set_cons_zero, List.set_cons_succ, i64_w, i32_w]
        rfl
      refine pure_ (i := 6) (N := some 36) (v := ?_) (a' := ?_) #[true, true, true, false, true, false, true, false] rfl rfl (by kernel_rfl) (fun _ _ _ h => h) (Or.inl ⟨by rfl, ?_⟩) ?_ ?_
      rotate_left
      · intro w'
        go_simp
        with_reducible rfl
      rotate_left
      · simp only [Act.put, List.setIfInBounds_toArray, List.set_cons_zero, List.set_cons_succ, i64_w, i32_w]
        rfl
      refine take_ (i := 3) (N := some 33) (v := ?_) (a' := ?_) #[true, true, true, true, true, false, true, false] rfl rfl (by kernel_rfl) (fun _ _ _ h => h) (Or.inl ⟨by rfl, ?_⟩) hHeld ?_ ?_
      rotate_left
      · rintro w' ⟨s0, s1⟩
        go_simp
        with_reducible rfl
      rotate_left
      · simp only [Act.put, List.setIfInBounds_toArray, List.set_cons_zero, List.set_cons_succ, i64_w, i32_w]
        rfl
      refine take_ (i := 5) (N := some 35) (v := ?_) (a' := ?_) #[true, true, true, true, true, true, true, false] rfl rfl (by kernel_rfl) (fun _ _ _ h => h) (Or.inl ⟨by rfl, ?_⟩) hHeld ?_ ?_
      rotate_left
      · rintro w' ⟨s0, s1⟩
        go_simp
        with_reducible rfl
      rotate_left
      · simp only [Act.put, List.setIfInBounds_toArray, List.set_cons_zero, List.set_cons_succ, i64_w, i32_w]
        rfl
      refine last_ (i := 7) (N := none) #[true, true, true, true, true, true, true, true] rfl rfl (by kernel_rfl) (by decide) (fun K hK => ?_)
      refine skip_ (w1 := W11) (by rfl) rfl ?_ ?_
      · go_simp
      refine hK.out _ _ ?_
      clear hK K
      refine done_ (by kernel_rfl) ?_
      have HX11 := Aside0.mk ((HX10.out.below (below_drew1 (Below.refl _ _))).mapput hg11 hm11)
      have HF11 := Aside0.mk (Fr.mapput (HX10.out.below (below_drew1 (Below.refl _ _))) (HF10.out.below (below_drew1 (Below.refl _ _))) hg11)
      have HMW := Aside0.mk HX10.out.2.2.2.1.2
      have HZ11 := Aside0.mk (blk_grown (blk_drew HZ10.out) hg11 (fun e => HX10.out.2.2.2.1.1.ne HZ10.out (by injection e with e; exact e.symm)))
      have HB11 := Aside0.mk ((below_step HB10.out (below_drew1 (Below.refl _ _))).grown hg11 HB10.out.size (fun q hq => by cases hq; exact HMW.out))
      clear hHeld y1 z0 hrun hm11 hg11 hwf HX10 HZ10 HB10 HX9 HZ9 HB9 HX8 HB8 HF8 HF9 HF10
      go_upto_region 12 with (fail)
      have y0 : W11.cell? ⟨g, 0, none⟩ = some v := (blk_cell HX11.out.1 0).trans rfl
      have z0 : W11.cell? ⟨z, 0, none⟩ = some (.string pp.f0) := (blk_cell HZ11.out 0).trans rfl
      have z1 : W11.cell? ⟨z, 1, none⟩ = some (.int .i64 pp.f1) := (blk_cell HZ11.out 1).trans rfl
      have z2 : W11.cell? ⟨z, 2, none⟩ = some (.int .i64 pp.f2) := (blk_cell HZ11.out 2).trans rfl
      have z3 : W11.cell? ⟨z, 3, none⟩ = some (.int .i64 pp.f3) := (blk_cell HZ11.out 3).trans rfl
      have z4 : W11.cell? ⟨z, 4, none⟩ = some (.int .i64 pp.f4) := (blk_cell HZ11.out 4).trans rfl
      refine start_ (n := 14) (S := fun w' => w'.cell? ⟨g, 0, none⟩ = some v ∧ w'.cell? ⟨z, 0, none⟩ = some (.string pp.f0) ∧ w'.cell? ⟨z, 1, none⟩ = some (.int .i64 pp.f1) ∧ w'.cell? ⟨z, 2, none⟩ = some (.int .i64 pp.f2) ∧ w'.cell? ⟨z, 3, none⟩ = some (.int .i64 pp.f3) ∧ w'.cell? ⟨z, 4, none⟩ = some (.int .i64 pp.f4)) (ds := [13]) #[false, false, false, false, false, false, false, false, false, false, false, false, false, false] (by kernel_rfl) rfl rfl ⟨y0, z0, z1, z2, z3, z4⟩ (fun hHeld => ?_)
      refine pure_ (i := 0) (N := some 37) (v := ?_) (a' := ?_) #[true, false, false, false, false, false, false, false, false, false, false, false, false, false] rfl rfl (by kernel_rfl) (fun _ _ _ h => h) (Or.inl ⟨by rfl, ?_⟩) ?_ ?_
      rotate_left
      · intro w'
        go_simp
        with_reducible rfl
      rotate_left
      · simp only [Act.put, List.setIfInBounds_toArray, List.set_cons_zero, List.set_cons_succ, i64_w, i32_w]
        rfl
      refine pure_ (i := 1) (N := some 38) (v := ?_) (a' := ?_) #[true, true, false, false, false, false, false, false, false, false, false, false, false, false] rfl rfl (by kernel_rfl) (fun _ _ _ h => h) (Or.inl ⟨by rfl, ?_⟩) ?_ ?_
      rotate_left
      · intro w'
        go_simp
        with_reducible rfl
      rotate_left
      · simp only [Act.put, List.setIfInBounds_toArray, List.set_cons_zero, List.set_cons_succ, i64_w, i32_w]
        rfl
      refine pure_ (i := 2) (N := some 39) (v := ?_) (a' := ?_) #[true, true, true, false, false, false, false, false, false, false, false, false, false, false] rfl rfl (by kernel_rfl) (fun _ _ _ h => h) (Or.inl ⟨by rfl, ?_⟩) ?_ ?_
      rotate_left
      · intro w'
        go_simp
        with_reducible rfl
      rotate_left
      · simp only [Act.put, List.setIfInBounds_toArray, List.set_cons_zero, List.set_cons_succ, i64_w, i32_w]
        rfl
      refine pure_ (i := 3) (N := some 40) (v := ?_) (a' := ?_) #[true, true, true, true, false, false, false, false, false, false, false, false, false, false] rfl rfl (by kernel_rfl) (fun _ _ _ h => h) (Or.inl ⟨by rfl, ?_⟩) ?_ ?_
      rotate_left
      · intro w'
        go_simp
        with_reducible rfl
      rotate_left
      · simp only [Act.put, List.setIfInBounds_toArray, List.set_cons_zero, List.set_cons_succ, i64_w, i32_w]
        rfl
      refine take_ (i := 4) (N := some 41) (v := ?_) (a' := ?_) #[true, true, true, true, true, false, false, false, false, false, false, false, false, false] rfl rfl (by kernel_rfl) (fun _ _ _ h => h) (Or.inl ⟨by rfl, ?_⟩) hHeld ?_ ?_
      rotate_left
      · rintro w' ⟨s0, s1, s2, s3, s4, s5⟩
        go_simp
        with_reducible rfl
      rotate_left
      · simp only [Act.put, List.setIfInBounds_toArray, List.set_cons_zero, List.set_cons_succ, i64_w, i32_w]
        rfl
      refine take_ (i := 5) (N := some 42) (v := ?_) (a' := ?_) #[true, true, true, true, true, true, false, false, false, false, false, false, false, false] rfl rfl (by kernel_rfl) (fun _ _ _ h => h) (Or.inl ⟨by rfl, ?_⟩) hHeld ?_ ?_
      rotate_left
      · rintro w' ⟨s0, s1, s2, s3, s4, s5⟩
        go_simp
        with_reducible rfl
      rotate_left
      · simp only [Act.put, List.setIfInBounds_toArray, List.set_cons_zero, List.set_cons_succ, i64_w, i32_w]
        rfl
      refine take_ (i := 7) (N := some 44) (v := ?_) (a' := ?_) #[true, true, true, true, true, true, false, true, false, false, false, false, false, false] rfl rfl (by kernel_rfl) (fun _ _ _ h => h) (Or.inl ⟨by rfl, ?_⟩) hHeld ?_ ?_
      rotate_left
      · rintro w' ⟨s0, s1, s2, s3, s4, s5⟩
        go_simp
        with_reducible rfl
      rotate_left
      · simp only [Act.put, List.setIfInBounds_toArray, List.set_cons_zero, List.set_cons_succ, i64_w, i32_w]
        rfl
      refine one_ (i := 6) (N := some 43) #[true, true, true, true, true, true, true, true, false, false, false, false, false, false] rfl rfl (by kernel_rfl) (by decide) (fun K hK => ?_)
      refine goes_ Tryd.func16 (by kernel_rfl) rfl #[.agg #[.string pp.f0, .int .i64 pp.f1, .int .i64 pp.f2, .int .i64 pp.f3, .int .i64 pp.f4]] (by rfl) rfl rfl (by simp only [List.map_toArray, List.map_cons, List.map_nil]; rfl) ?_
      with_reducible refine (guard_fresh_ok w _ pp (rightP_new HRP.out) (below_step HB11.out (below_drew1 (Below.refl _ _)))).mono ?_
      rintro e W12 ⟨b, rfl, hi, hb⟩
      refine ⟨_, rfl, ?_⟩
      have HX12 := Aside0.mk (HX11.out.below (below_step (below_drew1 (Below.refl _ _)) hb))
      have HF12 := Aside0.mk (HF11.out.below (below_step (below_drew1 (Below.refl _ _)) hb))
      have HZ12 := Aside0.mk (blk_below (blk_drew HZ11.out) hb)
      have HB12 := Aside0.mk (below_step (below_step HB11.out (below_drew1 (Below.refl _ _))) hb)
      have HBK := Aside0.mk hi
      have HAL := Aside0.mk (show Below W12.heap.size W12 (W12.alloc (.cells (rowg ⟨b, pp, 0⟩).toArray 49)) from below_alloc (Below.refl _ _) _)
      clear hi hb
      refine hK.out _ _ ⟨(blk_cell HX12.out.1 0).trans rfl, (blk_cell HZ12.out 0).trans rfl, (blk_cell HZ12.out 1).trans rfl, (blk_cell HZ12.out 2).trans rfl, (blk_cell HZ12.out 3).trans rfl, (blk_cell HZ12.out 4).trans rfl⟩ (fun hHeld => ?_)
      clear hK K
      refine norm_ (a' := ?_) ?_ ?_
      rotate_left
      · show Act.put _ (some 43) _ = _
        simp only [Act.put, List.setIfInBounds_toArray, List.set_cons_zero, List.set_cons_succ, i64_w, i32_w]
        rfl
      refine pure_ (i := 8) (N := some 45) (v := ?_) (a' := ?_) #[true, true, true, true, true, true, true, true, true, false, false, false, false, false] rfl rfl (by kernel_rfl) (fun _ _ _ h => h) (Or.inl ⟨by rfl, ?_⟩) ?_ ?_
      rotate_left
      · intro w'
        go_simp
        with_reducible rfl
      rotate_left
      · simp only [Act.put, List.setIfInBounds_toArray, List.set_cons_zero, List.set_cons_succ, i64_w, i32_w]
        rfl
      refine one_ (i := 9) (N := some 46) #[true, true, true, true, true, true, true, true, true, true, false, false, false, false] rfl rfl (by kernel_rfl) (by decide) (fun K hK => ?_)
      refine value_ (w1 := ?_) (v := ?_) (by rfl) rfl ?_ ?_
      rotate_left 2
      · go_simp
        constructor
        · rfl
        · rfl
      refine hK.out _ _ ⟨(HAL.out.cell (p := ⟨g, 0, none⟩) (blk_lt HX12.out.1)).trans ((blk_cell HX12.out.1 0).trans rfl), (HAL.out.cell (p := ⟨z, 0, none⟩) (blk_lt HZ12.out)).trans ((blk_cell HZ12.out 0).trans rfl), (HAL.out.cell (p := ⟨z, 1, none⟩) (blk_lt HZ12.out)).trans ((blk_cell HZ12.out 1).trans rfl), (HAL.out.cell (p := ⟨z, 2, none⟩) (blk_lt HZ12.out)).trans ((blk_cell HZ12.out 2).trans rfl), (HAL.out.cell (p := ⟨z, 3, none⟩) (blk_lt HZ12.out)).trans ((blk_cell HZ12.out 3).trans rfl), (HAL.out.cell (p := ⟨z, 4, none⟩) (blk_lt HZ12.out)).trans ((blk_cell HZ12.out 4).trans rfl)⟩ (fun hHeld => ?_)
      clear hK K
      refine norm_ (a' := ?_) ?_ ?_
      rotate_left
      · show Act.put _ (some 46) _ = _
        simp only [Act.put, List.setIfInBounds_toArray, List.set_cons_zero, List.set_cons_succ, i64_w, i32_w]
        rfl
      refine one_ (i := 10) (N := some 47) #[true, true, true, true, true, true, true, true, true, true, true, false, false, false] rfl rfl (by kernel_rfl) (by decide) (fun K hK => ?_)
      refine Kd.R_append_step (Kd.raw 7) (w0 := w) w.heap.size (by rfl) (.tmp 41) (.tmp 46) 41 49 (.agg #[.pointer none, .string ⟨#[]⟩, .int .i64 0, .int .i64 0, .int .i64 0, .int .i64 0, .int .i64 0]) 64 rfl (by rfl) info49 rfl (by decide) (by decide) v (gs.map rowg) (rowg ⟨b, pp, 0⟩) (rowg ⟨b, pp, 0⟩) (fun _ => True) (fun _ => False) rfl rfl ⟨rfl, rfl, by intro u hu; simp [rowg] at hu; rcases hu with rfl | rfl | rfl | rfl | rfl | rfl | rfl <;> rfl⟩ (fun _ h => h.elim) (fun _ _ => trivial) HX12.out.2.2.1 HB12.out HB12.out.size (by have h1 := congrArg List.length HPS.out; rw [List.length_map, List.length_take] at h1; rw [List.length_map]; have := HL.out; omega) ?_
      intro v7 w7 hR7 hB7 hg7 hat7
      obtain ⟨A7, n7, c7, rfl⟩ : ∃ A n c, v7 = .slice A n c := by obtain ⟨A, c, e, _⟩ := Kd.R_reads hR7; exact ⟨A, _, c, e⟩
      have HZ7 := Aside0.mk (blk_grown HZ12.out hg7 (Kd.R_ne HX12.out.2.2.1 HZ12.out (by decide)))
      have HG7 := Aside0.mk (blk_grown HX12.out.1 hg7 (Kd.R_ne HX12.out.2.2.1 HX12.out.1 (by decide)))
      have fz7 := blk_frozen HG7.out 0
      have HX7 := Aside0.mk (HX12.out.push ⟨b, pp, 0⟩ (freshK pp) HBK.out (rightP_ok HRP.out) hg7 hR7)
      have HF7 := Aside0.mk (Fr.push HX12.out HF12.out ⟨b, pp, 0⟩ HBK.out hg7 (.slice A7 n7 c7))
      have HB7 := Aside0.mk (hB7.setCell (p := ⟨g, 0, none⟩) HX12.out.2.1 (.slice A7 n7 c7))
      clear hR7 hB7 hg7 hat7
      refine hK.out _ _ ⟨(blk_cell HG7.out 0).trans rfl, (blk_cell HZ7.out 0).trans rfl, (blk_cell HZ7.out 1).trans rfl, (blk_cell HZ7.out 2).trans rfl, (blk_cell HZ7.out 3).trans rfl, (blk_cell HZ7.out 4).trans rfl⟩ (fun hHeld => ?_)
      clear hK K
      refine norm_ (a' := ?_) ?_ ?_
      rotate_left
      · show Act.put _ (some 47) _ = _
        simp only [Act.put, List.setIfInBounds_toArray, List.set_cons_zero, List.set_cons_succ, i64_w, i32_w]
        rfl
      refine pure_ (i := 11) (N := some 48) (v := ?_) (a' := ?_) #[true, true, true, true, true, true, true, true, true, true, true, true, false, false] rfl rfl (by kernel_rfl) (fun _ _ _ h => h) (Or.inl ⟨by rfl, ?_⟩) ?_ ?_
      rotate_left
      · intro w'
        go_simp
        with_reducible rfl
      rotate_left
      · simp only [Act.put, List.setIfInBounds_toArray, List.set_cons_zero, List.set_cons_succ, i64_w, i32_w]
        rfl
      refine pure_ (i := 12) (N := some 49) (v := ?_) (a' := ?_) #[true, true, true, true, true, true, true, true, true, true, true, true, true, false] rfl rfl (by kernel_rfl) (fun _ _ _ h => h) (Or.inl ⟨by rfl, ?_⟩) ?_ ?_
      rotate_left
      · intro w'
        go_simp
        with_reducible rfl
      rotate_left
      · simp only [Act.put, List.setIfInBounds_toArray, List.set_cons_zero, List.set_cons_succ, i64_w, i32_w]
        rfl
      refine last_ (i := 13) (N := none) #[true, true, true, true, true, true, true, true, true, true, true, true, true, true] rfl rfl (by kernel_rfl) (by decide) (fun K hK => ?_)
      refine skip_ (w1 := ?_) (by rfl) rfl ?_ ?_
      rotate_left
      · go_simp
        rfl
      refine hK.out _ _ ?_
      clear hK K
      refine done_ (by kernel_rfl) ?_
      clear hHeld y0 z0 z1 z2 z3 z4 fz7
      generalize w7.setCell ⟨g, 0, none⟩ (.slice A7 n7 c7) = W13 at *
      go_wp2
      go_roundw
      case rel => exact ⟨rfl, j + 1, gs ++ [⟨b, pp, 0⟩], by have := HLT.out; omega, by rw [HK.out], ⟨HX7.out.gd (by have := HNG.out; simp; omega)⟩, ⟨by rw [List.map_append, HPS.out, HTK.out]; rfl⟩, ⟨fun x hx => (by
        rcases List.mem_append.1 hx with hx | hx
        · exact HFL.out x hx
        · rw [List.mem_singleton] at hx
          subst hx
          rfl)⟩, ⟨fun h => by omega⟩, HF7, HB7⟩
      case measure => have := HI.out; have := HLT.out; simp [intOf, HK.out]; omega
end Go.Proofs.YtjefllmaffialaaDoor.Q
