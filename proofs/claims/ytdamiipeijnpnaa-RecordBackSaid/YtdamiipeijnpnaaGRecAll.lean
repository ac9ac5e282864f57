/- record.All: the payloads of the whole part. -/
import Derived.Test.YtdamiipeijnpnaaGRecords
import Derived.Test.YtdamiipeijnpnaaWApart
import Derived.RangeFuncBox
import Derived.Maps.AppendAt
namespace Go.Proofs.Ytdamiipeijnpnaa.Q
open Go.RowKit Go.Shelf Go.Proofs.YtdamiipeijnpnaaW.PrintWords Go.Proofs.YtdamiipeijnpnaaW.PrintLast Go.Proofs.YtdamiipeijnpnaaW.PrintMore
set_option linter.unusedVariables false
set_option linter.unusedSimpArgs false
attribute [local go_sem] Oper.semAt_some

theorem record_records.calls (A : Option Addr) (c : Nat) (bs : List Int) (w : World) :
    Calls Try.prog 49 #[.slice A bs.length c] w fun e w' => ∃ b : Nat, e = .returned (.func (.func 52) #[] #[.pointer (some ⟨b, 0, none⟩)]) ∧ w'.heap[b]? = some (.cells #[.slice A bs.length c] 25 (0, 0)) ∧ w.heap.size ≤ b ∧ Below w.heap.size w w' := by
  have HB := Aside0.mk (Below.refl w.heap.size w)
  go_enter Try.func49, Try.ntmps49
  go_wp2_with (first | ((with_reducible refine gate_dst (N := 1) rfl ?_); refine box_event ?hg (N := 1) ?hd (cs := #[.slice A bs.length c]) (t := 25) ?hr ?_; (case hd => rfl); (case hg => rfl); (case hr => first | (go_simp; done) | (go_simp; rfl)); intro b1 hg w1 hbox hb; have HB1 := Aside0.mk hb; have BX := Aside0.mk hbox; have HG := Aside0.mk hg; clear hb hbox hg))
  go_ret
  exact ⟨b1, rfl, BX.out, Nat.le_of_eq HG.out.symm, HB1.out⟩

/-- append(v, x) in a fence, x made (its rows are as okp says): the longer row of rows is the call's own. -/
theorem wpListIn_R_append {F : Fence} {n : Nat} {P : Program} {ops : Array Oper} {rest : List Oper} {o : Oper} {a : Act} {Q : Exit → Act → World → Prop} {α : Type} (d : Kd α) {W : World} (base : Nat) (hgd : o.guard = none) (s x : Operand) (t e : TypeId) (z : Value) (bytes : Nat)
    (ho : o.op = .call { callee := .builtin .append, args := #[s, x], argTypes := #[t, t] })
    (ht : P.underlying t = some (.slice e)) (hinfo : (P.info? e).map (fun i => (i.zero, i.size, i.bytes)) = some (some z, d.sz, bytes)) (hz : z.cells.size = d.sz) (hs0 : 0 < d.sz) (hb0 : 0 < bytes)
    (v : Value) (xs : List α) (p : α) (cs : List Value) (ok okp : Nat → Prop) (hs : a.eval s = v) (hx : a.eval x = .slice (some ⟨W.heap.size, 0, none⟩) 1 1) (hp : d.M W base okp p cs) (hokp : ∀ k, okp k → ok k ∧ some k ≠ v.ownBlock) (hfresh : ∀ k, W.heap.size ≤ k → ok k)
    (HO : d.R e W base ok v xs) (hbase : base ≤ W.heap.size) (hl : (xs.length + 1) * bytes ≤ 140737488355328)
    (h : ∀ v1 w1, d.R e w1 base ok v1 (xs ++ [p]) → (W.alloc (.cells cs.toArray e)).grownBy w1 v.ownBlock → wpListIn F n P ops Q rest (a.put o.dst v1) w1) :
    wpListIn F n P ops Q (o :: rest) a (W.alloc (.cells cs.toArray e)) := by
  obtain ⟨h0, inner, hown, hr⟩ := HO
  obtain ⟨i0, hi, hzz⟩ := Option.map_eq_some_iff.1 hinfo
  simp only [Prod.mk.injEq] at hzz
  obtain ⟨hz0, hz1, hz2⟩ := hzz
  have hlen : xs.length + 1 ≤ 140737488355328 := Nat.le_trans (Nat.le_mul_of_pos_right _ hb0) hl
  have hcl := d.K_len (d.K_of_M hp)
  refine wpListIn_plain hgd fun K hK' => ?_
  obtain ⟨v', w', hrun, r1, r2, _, r4⟩ := run_append_own_at (P := P) (W.alloc (.cells cs.toArray e)) base t o.type e i0 z d.sz bytes ht hi hz0 hz1 hz2 hz hs0 v xs.length inner (hown.alloc _) ⟨W.heap.size, 0, none⟩ 1 1 cs (by rw [hcl]; simp)
    (by simpa using World.news_of_block (cs := cs.toArray) (t := e) (fr := (0, 0)) (World.alloc_heap_new W (.cells cs.toArray e))) (d.K_one (d.K_of_M hp)) (by simp only [maxLen]; omega) hl (by simp; omega)
  unfold Oper.wpIn
  refine ⟨?_, ?_⟩
  · simp [Oper.about, ho, resolve, Target.leads, Sem.run_pure]
  · rw [Oper.semAt_plain F _ _ (by rw [ho]; intro c hc'; cases hc')]
    simp [execOp, ho, resolve, invoke, builtin, hs, hx, hrun, Result.andThen]
    refine hK' _ _ (h v' w' (Kd.R_appended h0 hr hp hokp hfresh r1 (World.grownBy.trans (World.grownBy_alloc W _ _) r2) ?_) r2)
    rcases r4 with r4 | r4
    · exact .inl r4
    · exact .inr ⟨_, r4, by simp⟩

abbrev kLL : Kd (List Int) := Kd.slice 5 (Kd.int .u8)
def lastI (l : List (Int × List Int)) : Int := (l.getLast?.map (·.1)).getD 0
theorem lastI_snoc (l : List (Int × List Int)) (x : Int × List Int) : lastI (l ++ [x]) = x.1 := by simp [lastI]
theorem R_own {α : Type} (d : Kd α) (e base : Nat) (ok : Nat → Prop) {X Y : World} {row : Option Nat} {v : Value} {xs : List α} (hs : d.R e X base ok v xs) (hg : X.grownBy Y row) (hrow : ∀ r, row = some r → ∃ o : Obj, X.heap[r]? = some o ∧ o.isCells = false) : d.R e Y base ok v xs := by
  refine Kd.R_mono (Kd.R_grown (Kd.R_bound hs) hg (fun k hk e => ?_)) (fun k hk => hk.1)
  obtain ⟨o, ho, hc⟩ := hrow k e.symm
  obtain ⟨_, _, _, q, _, cells, hcell⟩ := hk
  rw [hcell] at ho
  cases ho
  cases hc
theorem block_own {b : Nat} {cs : Array Value} {t : TypeId} {X Y : World} {row : Option Nat} (hs : X.heap[b]? = some (.cells cs t (0, 0))) (hg : X.grownBy Y row) (hrow : ∀ r, row = some r → ∃ o : Obj, X.heap[r]? = some o ∧ o.isCells = false) : Y.heap[b]? = some (.cells cs t (0, 0)) :=
  (hg.block b (Array.getElem?_eq_some_iff.1 hs).1 (fun e => by obtain ⟨q, hq, hc⟩ := hrow b e.symm; rw [hs] at hq; cases hq; cases hc)).trans hs
/-- An inner row is not the outer one. -/
theorem inner_ne {X : World} {q B : Nat} {ok : Nat → Prop} {v u : Value} {α : Type} {d : Kd α} {xs : List α} {ys : List Int} (hR : Kd.R d 25 X q ok v xs) (hx : Kd.R (Kd.int .u8) 5 X B (fun _ => True) u ys) : Kd.R (Kd.int .u8) 5 X B (fun k => B ≤ k ∧ some k ≠ v.ownBlock) u ys :=
  Kd.R_mono (Kd.R_bound hx) (fun k hk => ⟨hk.2.1, fun e => by
    obtain ⟨_, inner, hown, _⟩ := hR
    obtain ⟨cells, hc⟩ := own_typed hown k e.symm
    obtain ⟨_, _, _, t, ht, cells2, hc2⟩ := hk
    rw [hc] at hc2
    injection hc2 with e2
    injection e2 with _ e3
    rw [← e3] at ht
    exact absurd ht (by decide)⟩)
/-- A variable's box is not the row that it holds. -/
theorem box_ne {X : World} {q g t : Nat} {cs : Array Value} {ok : Nat → Prop} {v : Value} {α : Type} {d : Kd α} {xs : List α} (hR : Kd.R d 25 X q ok v xs) (hb : X.heap[g]? = some (.cells cs t (0, 0))) (ht : t ≠ 25) : some g ≠ v.ownBlock := fun e => by
  obtain ⟨_, inner, hown, _⟩ := hR
  obtain ⟨cells, hc⟩ := own_typed hown g e.symm
  rw [hb] at hc
  injection hc with e2
  injection e2 with _ e3
  exact ht e3
theorem row_base {X : World} {q k : Nat} {ok : Nat → Prop} {v : Value} {α : Type} {d : Kd α} {xs : List α} (hR : Kd.R d 25 X q ok v xs) (hk : v.ownBlock = some k) : q ≤ k ∧ ok k := by
  obtain ⟨h0, inner, hown, _⟩ := hR
  exact ⟨own_base hown k hk, h0 k hk⟩
theorem row_cells {X : World} {q k : Nat} {ok : Nat → Prop} {v : Value} {α : Type} {d : Kd α} {xs : List α} (hR : Kd.R d 25 X q ok v xs) (hk : v.ownBlock = some k) {O o : Obj} (ho : (X.alloc O).heap[k]? = some o) : o.isCells = true := by
  obtain ⟨h0, inner, hown, _⟩ := hR
  obtain ⟨cells, hc⟩ := own_typed hown k hk
  rw [blk_alloc hc O] at ho
  cases ho
  rfl

/-- A region that neither panics nor leaves: what stands behind it is asked for the normal end alone. -/
theorem wpIn_then {F : Fence} {n : Nat} {P : Program} {c : Code} {K : Act → World → Prop} {Q : Exit → Act → World → Prop} {a : Act} {w : World} (h : c.wpIn F n P (Exit.then K (fun _ _ _ => False)) a w) : c.wpIn F n P (Exit.then K Q) a w :=
  wpIn_mono h (fun e a w h => by
    cases e with
    | normal => exact h
    | _ => exact h.elim)
theorem results_all (tmps : Array Value) (W : World) (q : Nat) (v i e : Value) (h2 : tmps.getD 2 undef = .pointer (some ⟨q, 0, none⟩)) (h3 : tmps.getD 3 undef = .pointer (some ⟨q + 1, 0, none⟩)) (h4 : tmps.getD 4 undef = e) (c2 : W.cell? ⟨q, 0, none⟩ = some v) (c3 : W.cell? ⟨q + 1, 0, none⟩ = some i) :
    (results Try.f33 tmps).run Try.prog W = .ok (.tuple #[v, i, e]) W := by
  have h2' : tmps[2]?.getD undef = .pointer (some ⟨q, 0, none⟩) := by simpa using h2
  have h3' : tmps[3]?.getD undef = .pointer (some ⟨q + 1, 0, none⟩) := by simpa using h3
  have h4' : tmps[4]?.getD undef = e := by simpa using h4
  have hr : Try.f33.results = #[.cell 2 63, .cell 3 3, .tmp 4] := rfl
  have u63 := Try.underlying63
  have u3 := Try.underlying3
  simp [results, hr, h2', h3', h4', asAddr, go_sem, u63, u3, c2, c3]
theorem S_own (e base : Nat) (ok : Nat → Prop) {X Y : World} {row : Option Nat} {v : Value} {xs : List (List Int)} (hs : Kd.S kLL e X base ok v xs) (hg : X.grownBy Y row) (hrow : ∀ r, row = some r → ∃ o : Obj, X.heap[r]? = some o ∧ o.isCells = false) : Kd.S kLL e Y base ok v xs := by
  obtain ⟨f, h⟩ := hs
  exact ⟨f, R_own _ _ _ _ h hg hrow⟩
theorem S_set {X : World} {q g t : Nat} {ok : Nat → Prop} {v : Value} {xs : List (List Int)} {cells : Array Value} (hs : Kd.S kLL 25 X q ok v xs) (hb : X.heap[g]? = some (.cells cells t (0, 0))) (ht : t = 63 ∨ t = 3) (j : Nat) (u : Value) : Kd.S kLL 25 (X.setCell ⟨g, j, none⟩ u) q ok v xs := by
  obtain ⟨f, h⟩ := hs
  exact ⟨f, Kd.R_set h hb (by rcases ht with rfl | rfl; exact (show ∀ q, q ∈ 25 :: kLL.E → q ≠ 63 from by decide); exact (show ∀ q, q ∈ 25 :: kLL.E → q ≠ 3 from by decide)) j u⟩

/-- The end of All: its two variables and the error are handed back. -/
theorem all_end {w W : World} {q D : Nat} {a : Act} {v : Value} {i e : Int} {xs : List (List Int)} {ok : Nat → Prop} (hq : w.heap.size = q) (ht2 : a.tmps.getD 2 undef = .pointer (some ⟨q, 0, none⟩)) (ht3 : a.tmps.getD 3 undef = .pointer (some ⟨q + 1, 0, none⟩)) (ht4 : a.tmps.getD 4 undef = .int .i64 e) (hdf : a.defers = [{ target := .collected D, args := #[] }])
    (hv : W.heap[q]? = some (.cells #[v] 63 (0, 0))) (h3 : W.heap[q + 1]? = some (.cells #[.int .i64 i] 3 (0, 0))) (hK : W.heap[D]? = some (.deferred (some []))) (hD : q + 1 < D) (hR : Kd.S kLL 25 W q ok v xs) (hB : Below q w W) :
    bodyPostM Fence.wide 8 Try.prog Try.f33 (fun e2 w' => ∃ v0_ : Value, e2 = .returned (.tuple #[v0_, .int .i64 i, .int .i64 e]) ∧ Kd.S kLL 25 w' w.heap.size (fun _ => True) v0_ xs ∧ Below w.heap.size w w') .ret a W := by
  show LeavesInM Fence.wide 8 Try.prog Try.f33 a.tmps _ a.defers .returning W
  rw [hdf, hq]
  have hrow : ∀ r, some D = some r → ∃ o : Obj, W.heap[r]? = some o ∧ o.isCells = false := fun r er => by cases er; exact ⟨_, hK, rfl⟩
  have hg := grownBy_putObj' W D (.deferred none)
  refine ⟨by simp, .inl ⟨_, _, rfl, run_takeDeferred hK, ?_⟩⟩
  refine ⟨_, results_all a.tmps _ q v (.int .i64 i) (.int .i64 e) ht2 ht3 ht4 ((blk_cell (block_own hv hg hrow) 0).trans rfl) ((blk_cell (block_own h3 hg hrow) 0).trans rfl), v, rfl, Kd.S_mono (S_own _ _ _ hR hg hrow) (fun _ _ => trivial), hB.grown hg (by rw [← hq]; exact hB.size) (fun k ek => by cases ek; omega)⟩

def recsF (k : Nat) (bs : List Int) : Nat → Int → Option (List (Int × List Int))
  | 0, _ => none
  | n + 1, a => (record_Get.f k bs a).bind fun g => if g.2.2 = 0 then (recsF k bs n (wrap64 (a + g.2.1))).map (fun l => (wrap64 (a + g.2.1), g.1) :: l) else some []
theorem recsF_recs {k : Nat} {bs : List Int} : ∀ (n : Nat) (a : Int) (l : List (Int × List Int)), recsF k bs n a = some l → Recs k bs a l
  | 0, _, _, h => by cases h
  | n + 1, a, l, h => by
    rw [recsF] at h
    obtain ⟨⟨p, m, e⟩, hg, h⟩ := Option.bind_eq_some_iff.1 h
    dsimp only at h
    by_cases he : e = 0
    · rw [if_pos he] at h
      obtain ⟨l', hl', rfl⟩ := Option.map_eq_some_iff.1 h
      subst he
      exact .step hg (recsF_recs n _ _ hl')
    · rw [if_neg he] at h
      cases h
      exact .stop hg he
def record_All.f (k : Nat) (bs : List Int) : Option (List (List Int) × Int × Int) :=
  if bs.length < 1000000 then (recsF k bs k 0).bind fun l => if l.length < 1000000 then (if lastI l = (bs.length : Int) then some (l.map (·.2), lastI l, 0) else (record_Get.f k bs (lastI l)).bind fun g => some (l.map (·.2), lastI l, if g.2.2 = 2 then 2 else 18)) else none else none

/-- What a caller's round keeps: what lies below its own two variables, and one box. -/
def KpR (q b : Nat) (A B : World) : Prop := Below q A B ∧ B.heap[b]? = A.heap[b]? ∧ A.heap.size ≤ B.heap.size

set_option maxRecDepth 100000 in
set_option maxHeartbeats 4000000 in
theorem record_All.calls (k : Nat) (A0 : Option Addr) (c0 : Nat) (l0 : List Int) (r1 : List (List Int)) (r2 r3 : Int) (w : World) (hr0 : Kd.C (Kd.int .u8) w A0 l0.length l0) (hc0 : l0.length ≤ c0) (h : record_All.f k l0 = some (r1, r2, r3)) :
    Calls Try.prog 33 #[.slice A0 l0.length c0] w fun e w' => ∃ v0_ : Value, e = .returned (.tuple #[v0_, .int .i64 r2, .int .i64 r3]) ∧ Kd.S kLL 25 w' w.heap.size (fun _ => True) v0_ r1 ∧ Below w.heap.size w w' := by
  unfold record_All.f at h
  by_cases hl : l0.length < 1000000
  · rw [if_pos hl] at h
    obtain ⟨Z, hZ, h⟩ := Option.bind_eq_some_iff.1 h
    by_cases hzl : Z.length < 1000000
    · rw [if_pos hzl] at h
      refine (callsIn_wide (n := 8)).1 ?_
      refine callsIn_of_wp_marks Try.func33 rfl trivial ?_ rfl
      simp only [Try.ntmps33, List.size_toArray, List.length_cons, List.length_nil, Nat.reduceAdd, Nat.reduceSub, Array.replicate_succ, Array.replicate_zero, List.push_toArray, List.append_toArray, List.nil_append, List.cons_append]
      have hmx : Try.prog.follows .mixedOrders = true := by kernel_rfl
      gi_upto_region 1 with (fail)
      have x2 := blk_alloc (blk_new w (.cells #[.slice none 0 0] 63)) (.cells #[.int .i64 0] 3)
      have x3 := blk_new (w.alloc (.cells #[.slice none 0 0] 63)) (.cells #[.int .i64 0] 3)
      rw [World.size_alloc] at x3
      have hb1 : Below w.heap.size w ((w.alloc (.cells #[.slice none 0 0] 63)).alloc (.cells #[.int .i64 0] 3)) := ((Below.refl _ w).alloc (Nat.le_refl _) _).alloc (by simp) _
      have hs1 : ((w.alloc (.cells #[.slice none 0 0] 63)).alloc (.cells #[.int .i64 0] 3)).heap.size = w.heap.size + 1 + 1 := by simp
      generalize (w.alloc (.cells #[.slice none 0 0] 63)).alloc (.cells #[.int .i64 0] 3) = W1 at *
      obtain ⟨q, hq⟩ : ∃ q, w.heap.size = q := ⟨_, rfl⟩
      rw [hq] at x2 x3 hs1 hb1 ⊢
      have hfn : Fence.wide.fn 49 := trivial
      gi_wp2_with (gi_at_call 49; refine (callsIn_wide.2 (record_records.calls A0 c0 l0 _)).mono ?_; rintro e w2 ⟨b, rfl, hbx, hbb, hb2⟩)
      have y2 := (hb2.block q (by omega)).trans x2
      have y3 := (hb2.block (q + 1) (by omega)).trans x3
      have hB : Below q w w2 := hb1.trans (hb2.mono (by omega))
      have hbq : q + 1 + 1 ≤ b := by omega
      have hbl : b < w2.heap.size := blk_lt hbx
      refine range_roundsS rfl (by omega) (gf := 52) (lb := #[.pointer (some ⟨b, 0, none⟩)]) rfl trivial (enters_of Try.func52 (by kernel_rfl) rfl)
        (records_rounds b A0 c0 l0 k Z (recsF_recs _ _ _ hZ) (KpR q b) w w2 (by rw [hq]; exact hB) hbx hr0 hc0 (fun X Y h _ => ⟨h.2.1, by rw [hq]; exact h.1⟩) (fun X Y h => h.2.2)) (Below.refl _ _)
        (fun h1 h2 => ⟨h1.1.trans h2.1, h2.2.1.trans h1.2.1, Nat.le_trans h1.2.2 h2.2.2⟩) (fun X l o o' hl2 ho hcc hwk => ⟨belowK_b (w := w2) (by omega) X l o o' hl2 ho hcc hwk, World.putObj_heap_other (by omega), by simp⟩) (fun _ => rfl)
        (fun pre X => (∃ v, X.heap[q]? = some (.cells #[v] 63 (0, 0)) ∧ Kd.S kLL 25 X q (fun k => q ≤ k ∧ k ≠ b) v (pre.map (fun x => x.2.2.2))) ∧ X.heap[q + 1]? = some (.cells #[.int .i64 (lastI (pre.map recP))] 3 (0, 0)) ∧ Below q w X)
        (fun pre A C row hs hg hr => by
          obtain ⟨⟨v, hv, hR⟩, h3, hBX⟩ := hs
          have hr' := fun r e => (hr r e).2
          exact ⟨⟨v, block_own hv hg hr', S_own _ _ _ hR hg hr'⟩, block_own h3 hg hr', hBX.grown hg (by rw [← hq]; exact hBX.size) (fun k e => Nat.le_trans (by have := hB.size; omega) (hr k e).1)⟩)
        ⟨⟨_, y2, Kd.S_nil _ _ _ _ _⟩, y3, hB⟩
        (fun pre x a' X => (∃ rest, Z = pre.map recP ++ recP x :: rest) ∧ Kd.R (Kd.int .u8) 5 X w2.heap.size (fun _ => True) (.slice x.2.1 x.2.2.2.length x.2.2.1) x.2.2.2 ∧ (∃ v, X.heap[q]? = some (.cells #[v] 63 (0, 0)) ∧ Kd.S kLL 25 X q (fun k => (q ≤ k ∧ k ≠ b) ∧ some k ≠ (Value.slice x.2.1 x.2.2.2.length x.2.2.1).ownBlock) v (pre.map (fun x => x.2.2.2))) ∧ a' = { tmps := #[.slice A0 l0.length c0, undef, .pointer (some ⟨q, 0, none⟩), .pointer (some ⟨q + 1, 0, none⟩), .int .i64 0, .int .i64 x.1, .slice x.2.1 x.2.2.2.length x.2.2.1, .slice A0 l0.length c0, .func (.func 52) #[] #[.pointer (some ⟨b, 0, none⟩)], .int .i64 x.1, .slice x.2.1 x.2.2.2.length x.2.2.1, undef, undef, undef, undef, undef, undef, undef, undef, undef, undef, undef, undef, undef, undef, undef, undef, undef, undef, undef, undef, undef, undef, undef], defers := [] })
        (fun pre x a' _ A C row hs hg hr => ⟨hs.1, R_own _ _ _ _ hs.2.1 hg (fun r e => (hr r e).2), (by obtain ⟨v, hv, hS⟩ := hs.2.2.1; exact ⟨v, block_own hv hg (fun r e => (hr r e).2), S_own _ _ _ hS hg (fun r e => (hr r e).2)⟩), hs.2.2.2⟩)
        ?assign ?body ?done
      case assign =>
        rintro l' pre x W0 X K ⟨⟨v0, hv0, hS0⟩, _, _⟩ hbW hI ⟨hrest, hw0, hRx⟩ hK
        rw [show (#[9, 10] : Array Tmp).zip (encR x) = #[(9, Value.int .i64 x.1), (10, Value.slice x.2.1 x.2.2.2.length x.2.2.1)] from by simp [encR]]
        change Code.wpIn (Fence.wide.inRound l') (8 - 1 - 1) Try.prog _ _ { tmps := #[.slice A0 l0.length c0, undef, .pointer (some ⟨q, 0, none⟩), .pointer (some ⟨q + 1, 0, none⟩), .int .i64 0, undef, undef, .slice A0 l0.length c0, .func (.func 52) #[] #[.pointer (some ⟨b, 0, none⟩)], .int .i64 x.1, .slice x.2.1 x.2.2.2.length x.2.2.1, undef, undef, undef, undef, undef, undef, undef, undef, undef, undef, undef, undef, undef, undef, undef, undef, undef, undef, undef, undef, undef, undef, undef], defers := [] } X
        gi_wp2
        exact hK _ _ (KeepsFrom.refl _ _) ⟨Below.refl _ _, rfl, Nat.le_refl _⟩ hI ⟨hrest, Kd.R_lower hRx hw0, ⟨v0, (hbW.block q (blk_lt hv0)).trans hv0, Kd.S_mono (Kd.S_below (Kd.S_bound hS0) hbW) (fun k hk => ⟨hk.1, fun e => by
          obtain ⟨_, inner, hown, _⟩ := hRx
          have h1 := own_base hown k e.symm
          have h2 := hk.2.2.1
          omega⟩)⟩, rfl⟩
      case body =>
        rintro l' pre x a' X hl' hr' ⟨_, h3, hBX⟩ ⟨⟨rest, hrest⟩, hRx, ⟨v, hv, hS⟩, rfl⟩
        obtain ⟨f, hf, hR⟩ := Kd.S_tag hS (pre.map (fun x => x.2.2.2)).length (fun k => some k = (Value.slice x.2.1 x.2.2.2.length x.2.2.1).ownBlock) (fun k hk h2 => h2.2 hk)
        obtain ⟨lr, hlr⟩ := hr'
        have z2 : X.cell? ⟨q, 0, none⟩ = some v := (blk_cell hv 0).trans rfl
        have z3 : X.cell? ⟨q + 1, 0, none⟩ = some (.int .i64 (lastI (pre.map recP))) := (blk_cell h3 0).trans rfl
        have hXs : w2.heap.size ≤ X.heap.size := by have := (Array.getElem?_eq_some_iff.1 hlr).1; omega
        have hlen : pre.length + 1 < 1000000 := by
          have := congrArg List.length hrest
          rw [List.length_append, List.length_map, List.length_cons] at this
          omega
        have hRx' := inner_ne hR hRx
        have hRt := Kd.R_tight rfl hRx
        gi_wp2_with (gi_at_builtin; refine wpListIn_R_append (Kd.tag f kLL) q rfl _ _ 63 25 (.slice none 0 0) 24 rfl Try.underlying63 info25 rfl (show 0 < kLL.sz from by decide) (by omega) v ((pre.map (fun x => x.2.2.2)).zipIdx) (x.2.2.2, (pre.map (fun x => x.2.2.2)).length) [.slice x.2.1 x.2.2.2.length x.2.2.1] (fun k => q ≤ k ∧ k ≠ b) (fun k => some k = (Value.slice x.2.1 x.2.2.2.length x.2.2.1).ownBlock) rfl rfl ⟨_, rfl, Kd.R_mono (Kd.R_lower hRt (by omega)) (fun k hk => ⟨hk, hf k hk⟩)⟩ (fun k hk => by have := hRx'.1 k hk.symm; exact ⟨⟨by omega, by omega⟩, this.2⟩) (fun k hk => ⟨by omega, by omega⟩) (Kd.R_mono hR (fun k hk => hk.1)) (by omega) (by rw [List.length_zipIdx, List.length_map]; omega) ?_; intro v1 w3 hR1 hg1; obtain ⟨A4, c4, rfl, hc4, _⟩ := Kd.R_reads hR1; have k2 := blk_grown (blk_alloc hv _) hg1 (box_ne hR hv (by decide)); have k3 := blk_grown (blk_alloc h3 _) hg1 (box_ne hR h3 (by decide)); have d2 : w3.cell? ⟨q, 0, none⟩ = some v := (blk_cell k2 0).trans rfl; have f2 := blk_frozen k2 0; have d3 : w3.cell? ⟨q + 1, 0, none⟩ = some (.int .i64 (lastI (pre.map recP))) := (blk_cell k3 0).trans rfl; have f3 := blk_frozen k3 0)
        have e1 : ((pre.map (fun x => x.2.2.2)).zipIdx ++ [(x.2.2.2, (pre.map (fun x => x.2.2.2)).length)]).length = pre.length + 1 := by simp
        rw [e1] at hR1
        rw [← Kd.zip_snoc] at hR1
        have hqX : q ≤ X.heap.size := by omega
        have hbX : b < X.heap.size := by omega
        have k3' := blk_far k3 (p := ⟨q, 0, none⟩) (by simp) (.slice A4 (pre.length + 1) c4)
        have hko : KeepsOthers X ((w3.setCell ⟨q, 0, none⟩ (.slice A4 (pre.length + 1) c4)).setCell ⟨q + 1, 0, none⟩ (.int .i64 x.1)) :=
          (((KeepsOthers.alloc X (.cells #[.slice x.2.1 x.2.2.2.length x.2.2.1] 25)).trans (KeepsOthers.of_grownBy hg1 (fun j o ej hj => row_cells hR ej hj))).trans (KeepsOthers.setCell _ _ _)).trans (KeepsOthers.setCell _ _ _)
        have hbel : Below q X ((w3.setCell ⟨q, 0, none⟩ (.slice A4 (pre.length + 1) c4)).setCell ⟨q + 1, 0, none⟩ (.int .i64 x.1)) :=
          ((((Below.refl q X).alloc hqX (.cells #[.slice x.2.1 x.2.2.2.length x.2.2.1] 25)).grown hg1 (by simp; omega) (fun j ej => (row_base hR ej).1)).setCell (p := ⟨q, 0, none⟩) (Nat.le_refl _) _).setCell (p := ⟨q + 1, 0, none⟩) (Nat.le_succ _) _
        refine ⟨hko.from _, ⟨hbel, ?_, hko.size⟩, ⟨⟨_, blk_far (blk_put k2 0 (.slice A4 (pre.length + 1) c4) (cs' := #[.slice A4 (pre.length + 1) c4]) rfl) (p := ⟨q + 1, 0, none⟩) (by simp) _, ?_⟩, ?_, hBX.trans hbel⟩⟩
        · rw [Below.heap_setCell _ _ _ b (by show b ≠ q + 1; omega), Below.heap_setCell _ _ _ b (by show b ≠ q; omega), hg1.block b (by simp; omega) (fun e => (row_base hR e.symm).2.1.2 rfl)]
          exact Below.heap_alloc _ _ _ hbX
        · rw [List.map_append]
          exact S_set (S_set (⟨f, hR1⟩ : Kd.S kLL 25 w3 q _ _ _) k2 (.inl rfl) 0 _) k3' (.inr rfl) 0 _
        · rw [List.map_append, show [x].map recP = [recP x] from rfl, lastI_snoc]
          exact blk_put k3' 0 (.int .i64 x.1) (cs' := #[.int .i64 x.1]) rfl
      case done =>
        rintro D ys X hD hys ⟨⟨v, hv, hR⟩, h3, hBX⟩ hK
        rw [hys] at h3
        have z3 : X.cell? ⟨q + 1, 0, none⟩ = some (.int .i64 (lastI Z)) := (blk_cell h3 0).trans rfl
        have f2 := blk_frozen hv 0
        have f3 := blk_frozen h3 0
        obtain ⟨A4, c4, rfl, hc4, _⟩ := Kd.S_reads hR
        have z2 : X.cell? ⟨q, 0, none⟩ = some (.slice A4 (ys.map (fun x => x.2.2.2)).length c4) := (blk_cell hv 0).trans rfl
        have e1 : ys.map (fun x => x.2.2.2) = Z.map (·.2) := by rw [← hys, List.map_map]; rfl
        rw [e1] at hR hv z2
        by_cases hlz : lastI Z = (l0.length : Int)
        · rw [if_pos hlz] at h
          have hd : (lastI Z == (l0.length : Int)) = true := beq_iff_eq.mpr hlz
          gi_upto_region 7 with (fail)
          refine wpIn_then ?_
          gi_region_with_o (fail)
          all_goals gi_wp2
          all_goals obtain ⟨rfl, rfl, rfl⟩ : Z.map (·.2) = r1 ∧ lastI Z = r2 ∧ 0 = r3 := by simpa using h
          all_goals
            have hD' : q + 1 < D := by omega
            have e2 : (Z.map (·.2)).length = Z.length := List.length_map _
            rw [e2] at hv hR
            rw [hlz] at h3 ⊢
            have g1 := blk_put hv 0 (.slice A4 Z.length c4) (cs' := #[.slice A4 Z.length c4]) rfl
            have g3 := blk_far h3 (p := ⟨q, 0, none⟩) (by simp) (.slice A4 Z.length c4)
            have g1' := blk_far g1 (p := ⟨q + 1, 0, none⟩) (by simp) (.int .i64 (l0.length : Int))
            have g3' := blk_put g3 0 (.int .i64 (l0.length : Int)) (cs' := #[.int .i64 (l0.length : Int)]) rfl
            have gR := S_set (S_set hR hv (.inl rfl) 0 (.slice A4 Z.length c4)) g3 (.inr rfl) 0 (.int .i64 (l0.length : Int))
            have gB : Below q w ((X.setCell ⟨q, 0, none⟩ (.slice A4 Z.length c4)).setCell ⟨q + 1, 0, none⟩ (.int .i64 (l0.length : Int))) := (hBX.setCell (p := ⟨q, 0, none⟩) (Nat.le_refl _) _).setCell (p := ⟨q + 1, 0, none⟩) (Nat.le_succ _) _
            have gK : ((X.setCell ⟨q, 0, none⟩ (.slice A4 Z.length c4)).setCell ⟨q + 1, 0, none⟩ (.int .i64 (l0.length : Int))).heap[D]? = some (.deferred (some [])) := by rw [Below.heap_setCell _ _ _ D (by show D ≠ q + 1; omega), Below.heap_setCell _ _ _ D (by show D ≠ q; omega)]; exact hK
            exact all_end (a := { tmps := _, defers := [{ target := .collected D, args := #[] }] }) hq rfl rfl rfl rfl g1' g3' gK hD' (Kd.S_below gR (below_drew1 (Below.refl _ _))) (below_drew1 (w := w) gB)
        · rw [if_neg hlz] at h
          have hd : (lastI Z == (l0.length : Int)) = false := beq_eq_false_iff_ne.mpr hlz
          obtain ⟨⟨p, m, e⟩, hg, h⟩ := Option.bind_eq_some_iff.1 h
          have hfg : Fence.wide.fn 31 := trivial
          have hBw : Below w.heap.size w X := by rw [hq]; exact hBX
          have e2 : (Z.map (·.2)).length = Z.length := List.length_map _
          rw [e2] at hv hR z2
          have fin : ∀ (X5 : World) (a5 : Act) (r : Int), Below X.heap.size X X5 → a5.tmps.getD 2 undef = .pointer (some ⟨q, 0, none⟩) → a5.tmps.getD 3 undef = .pointer (some ⟨q + 1, 0, none⟩) → a5.tmps.getD 4 undef = .int .i64 r → a5.defers = [{ target := .collected D, args := #[] }] → r = r3 →
              bodyPostM Fence.wide 8 Try.prog Try.f33 (fun e2 w' => ∃ v0_ : Value, e2 = .returned (.tuple #[v0_, .int .i64 r2, .int .i64 r3]) ∧ Kd.S kLL 25 w' w.heap.size (fun _ => True) v0_ r1 ∧ Below w.heap.size w w') .ret a5 (((X5.setCell ⟨q, 0, none⟩ (.slice A4 Z.length c4)).setCell ⟨q + 1, 0, none⟩ (.int .i64 (lastI Z))).drew) := by
            intro X5 a5 r hb5 a2 a3 a4 ad hr3
            obtain ⟨rfl, rfl, _⟩ : Z.map (·.2) = r1 ∧ lastI Z = r2 ∧ (if e = 2 then (2 : Int) else 18) = r3 := by simpa using h
            subst hr3
            have hD' : q + 1 < D := by omega
            have hv5 := (hb5.block q (blk_lt hv)).trans hv
            have h35 := (hb5.block (q + 1) (blk_lt h3)).trans h3
            have hK5 := (hb5.block D (Array.getElem?_eq_some_iff.1 hK).1).trans hK
            have g1 := blk_put hv5 0 (.slice A4 Z.length c4) (cs' := #[.slice A4 Z.length c4]) rfl
            have g3 := blk_far h35 (p := ⟨q, 0, none⟩) (by simp) (.slice A4 Z.length c4)
            have g1' := blk_far g1 (p := ⟨q + 1, 0, none⟩) (by simp) (.int .i64 (lastI Z))
            have g3' := blk_put g3 0 (.int .i64 (lastI Z)) (cs' := #[.int .i64 (lastI Z)]) rfl
            have gR := S_set (S_set (Kd.S_below hR hb5) hv5 (.inl rfl) 0 (.slice A4 Z.length c4)) g3 (.inr rfl) 0 (.int .i64 (lastI Z))
            have gB : Below q w ((X5.setCell ⟨q, 0, none⟩ (.slice A4 Z.length c4)).setCell ⟨q + 1, 0, none⟩ (.int .i64 (lastI Z))) := ((hBX.trans (hb5.mono (by have := hBX.size; omega))).setCell (p := ⟨q, 0, none⟩) (Nat.le_refl _) _).setCell (p := ⟨q + 1, 0, none⟩) (Nat.le_succ _) _
            have gK : ((X5.setCell ⟨q, 0, none⟩ (.slice A4 Z.length c4)).setCell ⟨q + 1, 0, none⟩ (.int .i64 (lastI Z))).heap[D]? = some (.deferred (some [])) := by rw [Below.heap_setCell _ _ _ D (by show D ≠ q + 1; omega), Below.heap_setCell _ _ _ D (by show D ≠ q; omega)]; exact hK5
            exact all_end hq a2 a3 a4 ad g1' g3' gK hD' (Kd.S_below gR (below_drew1 (Below.refl _ _))) (below_drew1 (w := w) gB)
          have e3 : r3 = if e = 2 then (2 : Int) else 18 := by
            have : some ((Z.map (·.2)), lastI Z, if e = 2 then (2 : Int) else 18) = some (r1, r2, r3) := h
            simp only [Option.some.injEq, Prod.mk.injEq] at this
            exact this.2.2.symm
          gi_upto_region 9 with (gi_at_call 31; refine (callsIn_wide.2 (record_Get.calls k A0 c0 l0 (lastI Z) p m e _ (Kd.C_below hr0 hBw) hc0 hg)).mono ?_; rintro e5 w5 ⟨v0, rfl, _, hb5⟩)
          have d2 : w5.cell? ⟨q, 0, none⟩ = some (.slice A4 Z.length c4) := (hb5.cell (p := ⟨q, 0, none⟩) (blk_lt hv)).trans z2
          have d3 : w5.cell? ⟨q + 1, 0, none⟩ = some (.int .i64 (lastI Z)) := (hb5.cell (p := ⟨q + 1, 0, none⟩) (blk_lt h3)).trans z3
          have g2 : w5.frozen? ⟨q, 0, none⟩ = false := blk_frozen ((hb5.block q (blk_lt hv)).trans hv) 0
          have g3 : w5.frozen? ⟨q + 1, 0, none⟩ = false := blk_frozen ((hb5.block (q + 1) (blk_lt h3)).trans h3) 0
          by_cases he : e = 2
          · have he1 : (e == 2) = true := beq_iff_eq.mpr he
            have he2 : (e != 2) = false := by rw [bne, he1]; rfl
            gi_upto_region 11 with (fail)
            refine wpIn_then ?_
            gi_region_with_o (fail)
            all_goals gi_wp2
            all_goals exact fin w5 { tmps := _, defers := [{ target := .collected D, args := #[] }] } 2 hb5 rfl rfl rfl rfl (by rw [e3, if_pos he])
          · have he1 : (e == 2) = false := beq_eq_false_iff_ne.mpr he
            have he2 : (e != 2) = true := by rw [bne, he1]; rfl
            gi_upto_region 11 with (fail)
            refine wpIn_then ?_
            gi_region_with_o (fail)
            all_goals gi_wp2
            all_goals exact fin w5 { tmps := _, defers := [{ target := .collected D, args := #[] }] } 18 hb5 rfl rfl rfl rfl (by rw [e3, if_neg he])
    · rw [if_neg hzl] at h
      cases h
  · rw [if_neg hl] at h
    cases h
theorem recsF_k (bs : List Int) (k : Nat) : ∀ (n : Nat) (a : Int), LeO (recsF k bs n a) (recsF (k + 1) bs n a)
  | 0, _ => LeO.refl _
  | n + 1, a => by
    rw [recsF, recsF]
    refine LeO.bind (record_Get.mono _ _ _) (fun g => LeO.ite (LeO.map _ (recsF_k bs k n _)) (LeO.refl _))
theorem recsF_n (bs : List Int) (k : Nat) : ∀ (n : Nat) (a : Int), LeO (recsF k bs n a) (recsF k bs (n + 1) a)
  | 0, _ => LeO.none _
  | n + 1, a => by
    rw [recsF, recsF]
    exact LeO.bind (LeO.refl _) (fun g => LeO.ite (LeO.map _ (recsF_n bs k n _)) (LeO.refl _))
theorem record_All.mono : ∀ a0 k, LeO (record_All.f k a0) (record_All.f (k + 1) a0) := by
  intro a0 k
  unfold record_All.f
  refine LeO.ite (LeO.bind ((recsF_k a0 k k 0).trans (recsF_n a0 (k + 1) k 0)) (fun l => LeO.ite (LeO.ite (LeO.refl _) (LeO.bind (record_Get.mono _ _ _) (fun g => LeO.refl _))) (LeO.refl _))) (LeO.refl _)
end Go.Proofs.Ytdamiipeijnpnaa.Q
