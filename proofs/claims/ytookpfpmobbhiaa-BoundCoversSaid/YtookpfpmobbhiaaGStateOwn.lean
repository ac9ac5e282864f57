/- state.find, slices.IndexFunc, slices.Clone and def.Own, as state.Def calls them. -/
import Derived.Test.YtookpfpmobbhiaaQx24
import Derived.Test.YtookpfpmobbhiaaGRounds
import Derived.RangeFuncCalls
import Derived.Shelf.Abstract
import Derived.Shelf.RegionOpen
import Derived.OwnWalkIn
import Derived.TacticsInMore
import Derived.Sort.CutIn
import Derived.LoopNIn
import Derived.LoopIn
import Derived.Lib.SliceRun
import Derived.Lib.Hide
import Derived.Outline
namespace Go.Proofs.Ytookpfpmobbhiaa.Q
open Go.RowKit Go.Shelf Go.Proofs.YtookpfpmobbhiaaW.PrintWords Go.Proofs.YtookpfpmobbhiaaW.PrintLast Go.Proofs.YtookpfpmobbhiaaW.PrintMore
set_option linter.unusedVariables false
set_option linter.unusedSimpArgs false
attribute [local go_sem] Oper.semAt_some

/-- The first place from j on, or -1. -/
def firstI {α : Type} (p : α → Bool) : List α → Int → Int
  | [], _ => -1
  | a :: l, j => if p a = true then j else firstI p l (j + 1)
theorem firstI_at {α : Type} (p : α → Bool) (l : List α) (j : Nat) (h : j < l.length) : firstI p (l.drop j) (j : Int) = if p l[j] = true then (j : Int) else firstI p (l.drop (j + 1)) ((j + 1 : Nat) : Int) := by
  rw [List.drop_eq_getElem_cons h, firstI]
  rfl

def isNamed (s : ByteArray) (d : S28) : Bool := d.f0.toList == s.toList

set_option maxRecDepth 100000 in
set_option maxHeartbeats 2000000 in
theorem find_closure.calls (bk bs : Nat) (s : ByteArray) (x : S28) (A2 : Option Addr) (c2 : Nat) (W : World) (hk : W.cell? ⟨bk, 0, none⟩ = some (.func (.func 40) #[] #[])) (hs : W.cell? ⟨bs, 0, none⟩ = some (.string s)) (hr2 : Kd.C k49 W A2 x.f2.length x.f2) (hc2 : x.f2.length ≤ c2) :
    Calls Try.prog 47 (#[.agg #[.string x.f0, .int .i64 x.f1, .slice A2 x.f2.length c2]] ++ #[.pointer (some ⟨bk, 0, none⟩), .pointer (some ⟨bs, 0, none⟩)]) W fun e W' => e = .returned (.bool (isNamed s x)) ∧ Below W.heap.size W W' := by
  have HR := Aside0.mk hr2
  have HC := Aside0.mk hc2
  have HK := Aside0.mk (World.block_lt_of_cell? W _ hk)
  have HS := Aside0.mk (World.block_lt_of_cell? W _ hs)
  clear hr2 hc2
  refine (callsIn_wide (n := 8)).1 ?_
  refine callsIn_of_wp Try.func47 rfl trivial ?_ rfl
  simp only [Try.ntmps47, List.size_toArray, List.length_cons, List.length_nil, Nat.reduceAdd, Nat.reduceSub, Array.replicate_succ, Array.replicate_zero, List.push_toArray, List.append_toArray, List.nil_append, List.cons_append]
  have hmx : Try.prog.follows .mixedOrders = true := by kernel_rfl
  gi_upto_region 1 with (fail)
  have bx := blk_new W (.cells #[.string x.f0, .int .i64 x.f1, .slice A2 x.f2.length c2] 28)
  have hb3 : Below W.heap.size W (W.alloc (.cells #[.string x.f0, .int .i64 x.f1, .slice A2 x.f2.length c2] 28)) := (Below.refl _ W).alloc (Nat.le_refl _) _
  have HW3 := Aside0.mk hb3
  replace hk := (hb3.cell (p := ⟨bk, 0, none⟩) HK.out).trans hk
  replace hs := (hb3.cell (p := ⟨bs, 0, none⟩) HS.out).trans hs
  have HR3 := Aside0.mk (Kd.C_below HR.out hb3)
  clear hb3
  generalize W.alloc (.cells #[.string x.f0, .int .i64 x.f1, .slice A2 x.f2.length c2] 28) = W3 at *
  obtain ⟨q, hq⟩ : ∃ q, W.heap.size = q := ⟨_, rfl⟩
  rw [hq] at bx ⊢
  clear hq
  have y0 : W3.cell? ⟨q, 0, none⟩ = some (.string x.f0) := (blk_cell bx 0).trans rfl
  have y1 : W3.cell? ⟨q, 1, none⟩ = some (.int .i64 x.f1) := (blk_cell bx 1).trans rfl
  have y2 : W3.cell? ⟨q, 2, none⟩ = some (.slice A2 x.f2.length c2) := (blk_cell bx 2).trans rfl
  have hfn : Fence.wide.fn 40 := trivial
  gi_region_with_o (gi_at_call 40; go_loud (refine (callsIn_wide.2 (state_name.calls x.f0 x.f1 A2 c2 x.f2 x.f0 _ (Kd.C_below HR3.out (below_drew1 (Below.refl _ W3))) HC.out rfl)).mono ?_; rintro e w5 ⟨rfl, hb⟩; have HB5 := Aside0.mk (below_step HW3.out (below_step (below_drew1 (Below.refl _ W3)) hb)); replace hs := (hb.cell (World.block_lt_of_cell? _ _ hs)).trans hs; clear hb))
  all_goals gi_wp2
  all_goals go_ret
  all_goals exact ⟨rfl, HB5.out⟩

set_option maxRecDepth 100000 in
set_option maxHeartbeats 2000000 in
theorem index_Def.calls (bk bs : Nat) (s : ByteArray) (A0 : Option Addr) (c0 : Nat) (l0 : List S28) (w : World) (hr0 : Kd.C k28 w A0 l0.length l0) (hl : l0.length < 1000000)
    (hk : w.cell? ⟨bk, 0, none⟩ = some (.func (.func 40) #[] #[])) (hs : w.cell? ⟨bs, 0, none⟩ = some (.string s)) :
    Calls Try.prog 46 #[.slice A0 l0.length c0, .func (.func 47) #[] #[.pointer (some ⟨bk, 0, none⟩), .pointer (some ⟨bs, 0, none⟩)]] w fun e w' => e = .returned (.int .i64 (firstI (isNamed s) l0 0)) ∧ Below w.heap.size w w' := by
  have HR := Aside0.mk hr0
  have HKc := Aside0.mk hk
  have HSc := Aside0.mk hs
  have HB0 := Aside0.mk (Below.refl w.heap.size w)
  clear hr0 hk hs
  go_enter Try.func46, Try.ntmps46
  go_wp2
  go_loopw [8] (fun v8 W => ∃ j : Nat, j ≤ l0.length ∧ v8 = .int .i64 (j : Int) ∧ Aside0 (firstI (isNamed s) l0 0 = firstI (isNamed s) (l0.drop j) (j : Int)) ∧ Aside0 (Below w.heap.size w W)) (fun v8 _ => l0.length - (intOf v8).toNat)
  case atStart => exact ⟨0, Nat.zero_le _, rfl, ⟨rfl⟩, HB0⟩
  case round =>
    clear HB0
    obtain ⟨j, hj, rfl, HF, HB⟩ := hrel
    by_cases hlt : j < l0.length
    · have HFA := Aside0.mk (HF.out.trans (firstI_at (isNamed s) l0 j hlt))
      obtain ⟨ad, A2, c2, e, x0, x1, x2, hc2, hr2⟩ := at_T28 HR.out (j : Int) (by omega) (by omega)
      have HX := Aside0.mk (show rd_T28 l0 (j : Int) = l0[j] by
        unfold rd_T28
        rw [Int.toNat_natCast, List.getD_eq_getElem?_getD, List.getElem?_eq_getElem hlt]
        rfl)
      rw [← HX.out] at HFA
      cases e
      replace x0 := (HB.out.cell (World.block_lt_of_cell? w _ x0)).trans x0
      replace x1 := (HB.out.cell (World.block_lt_of_cell? w _ x1)).trans x1
      replace x2 := (HB.out.cell (World.block_lt_of_cell? w _ x2)).trans x2
      have HR2 := Aside0.mk (Kd.C_below hr2 HB.out)
      have HC2 := Aside0.mk hc2
      have HKw := Aside0.mk ((HB.out.cell (World.block_lt_of_cell? w _ HKc.out)).trans HKc.out)
      have HSw := Aside0.mk ((HB.out.cell (World.block_lt_of_cell? w _ HSc.out)).trans HSc.out)
      clear HX hr2 hc2
      generalize rd_T28 l0 (j : Int) = d at *
      obtain ⟨i, hi⟩ : ∃ i : Int, (j : Int) = i := ⟨_, rfl⟩
      have HI := Aside0.mk hi
      have hp1 : (0 ≤ i) = True := eq_true (by omega)
      have hq1 : (i < (l0.length : Int)) = True := eq_true (by omega)
      have hd1 : decide (i < (l0.length : Int)) = true := decide_eq_true (by omega)
      have HK := Aside0.mk (show wrap64 (i + 1) = ((j + 1 : Nat) : Int) by unfold wrap64; omega)
      rw [hi] at x0 x1 x2 HFA ⊢
      clear hi
      by_cases hnm : isNamed s d = true
      · rw [if_pos hnm] at HFA
        go_wp2_with (first | (go_at_call 47; refine (find_closure.calls bk bs s d A2 c2 _ HKw.out HSw.out HR2.out HC2.out).mono ?_; rw [hnm]; rintro e w5 ⟨rfl, hb⟩; have HB5 := Aside0.mk (below_step HB.out hb); clear hb))
        go_ret
        exact ⟨by rw [HFA.out]; rfl, HB5.out⟩
      · rw [if_neg hnm] at HFA
        have hnm' : isNamed s d = false := Bool.eq_false_iff.mpr hnm
        go_wp2_with (first | (go_at_call 47; refine (find_closure.calls bk bs s d A2 c2 _ HKw.out HSw.out HR2.out HC2.out).mono ?_; rw [hnm']; rintro e w5 ⟨rfl, hb⟩; have HB5 := Aside0.mk (below_step HB.out hb); clear hb))
        go_roundw
        case rel => exact ⟨j + 1, by omega, by rw [HK.out], HFA, HB5⟩
        case measure => have := HI.out; simp [intOf, HK.out]; omega
    · have hjl : j = l0.length := by omega
      subst hjl
      have hd1 : decide ((l0.length : Int) < (l0.length : Int)) = false := decide_eq_false (by omega)
      go_wp2
      go_ret
      exact ⟨by rw [HF.out, List.drop_length]; rfl, HB.out⟩

theorem info49 : (Try.prog.info? 49).map (fun i => (i.zero, i.size, i.bytes)) = some (some (.agg #[.string ⟨#[]⟩, .string ⟨#[]⟩, .int .i64 0, .int .i64 0, .int .i64 0, .int .i64 0, .int .i64 0, .int .i64 0, .int .i64 0, .int .i64 0, .int .i64 0, .int .i64 0]), 12, 112) := by kernel_rfl

set_option maxRecDepth 100000 in
set_option maxHeartbeats 2000000 in
theorem find_Def.calls (s : ByteArray) (A0 : Option Addr) (c0 : Nat) (l0 : List S28) (w : World) (hr0 : Kd.C k28 w A0 l0.length l0) (hl : l0.length < 1000000) :
    Calls Try.prog 39 #[.slice A0 l0.length c0, .string s, .func (.func 40) #[] #[]] w fun e w' => e = .returned (.int .i64 (firstI (isNamed s) l0 0)) ∧ Below w.heap.size w w' := by
  have HR := Aside0.mk hr0
  have HB := Aside0.mk (Below.refl w.heap.size w)
  clear hr0
  go_enter Try.func39, Try.ntmps39
  go_wp2_with (first | ((with_reducible refine gate_dst (N := 4) rfl ?_); refine box_event ?hg (N := 4) ?hd (cs := #[.string s]) (t := 9) ?hr ?_; (case hd => rfl); (case hg => rfl); (case hr => first | (go_simp; done) | (go_simp; rfl)); intro b1 hg w1 hbox hb; have HB1 := Aside0.mk hb; have BX1 := Aside0.mk hbox; clear hb hbox hg) | ((with_reducible refine gate_dst (N := 5) rfl ?_); refine box_event ?hg (N := 5) ?hd (cs := #[.func (.func 40) #[] #[]]) (t := 67) ?hr ?_; (case hd => rfl); (case hg => rfl); (case hr => first | (go_simp; done) | (go_simp; rfl)); intro b2 hg w2 hbox hb; have HB2 := Aside0.mk hb; have BX2 := Aside0.mk hbox; clear hb hbox hg) | (go_at_call 46; refine (index_Def.calls b2 b1 s A0 c0 l0 _ (Kd.C_below HR.out (below_step HB1.out HB2.out)) hl ((blk_cell BX2.out 0).trans rfl) ((HB2.out.cell (p := ⟨b1, 0, none⟩) (blk_lt BX1.out)).trans ((blk_cell BX1.out 0).trans rfl))).mono ?_; rintro e w3 ⟨rfl, hb⟩; have HB3 := Aside0.mk (below_step (below_step HB1.out HB2.out) hb); clear hb))
  go_ret
  exact ⟨rfl, HB3.out⟩

set_option maxHeartbeats 400000 in
set_option maxRecDepth 100000 in
theorem clone_Step.calls (A0 : Option Addr) (c0 : Nat) (l0 : List S49) (w : World) (hr0 : Kd.C k49 w A0 l0.length l0) (hl : l0.length < 1000000) :
    Calls Try.prog 48 #[.slice A0 l0.length c0] w fun e w' => ∃ v0_ : Value, e = .returned (v0_) ∧ Kd.R k49 49 w' w.heap.size (fun _ => True) v0_ l0 ∧ Below w.heap.size w w' := by
    have hHR := Aside0.mk hr0
    have hHL := Aside0.mk hl
    clear hl
    cases A0 with
    | none =>
      have h0 : l0 = [] := by
        by_cases hn : 0 < l0.length
        · obtain ⟨ad, e, _⟩ := hr0.2.2 hn
          cases e
        · exact List.length_eq_zero_iff.1 (by omega)
      subst h0
      clear hr0 hHR hHL
      have he := fun W => Lib.run_eql_slice_nil (P := Try.prog) W 26 49 none 0 c0 0 0 Try.underlying26
      go_enter Try.func48, Try.ntmps48
      go_wp2
      go_ret
      exact ⟨_, rfl, Kd.R_nil _ _ _ _ _, Below.refl _ _⟩
    | some ad =>
      clear hr0
      have HB := Aside0.mk (Below.refl w.heap.size w)
      have he := fun W => Lib.run_eql_slice_nil (P := Try.prog) W 26 49 (some ad) l0.length c0 0 0 Try.underlying26
      go_enter Try.func48, Try.ntmps48
      go_wp2_with (first | ((with_reducible refine gate_dst (N := 5) rfl ?_); refine Kd.R_lit k49 w.heap.size 49 ?hg (N := 5) ?hd (xs := ([] : List S49)) (inner := []) (ok := fun _ => True) (okp := fun _ => True) ?hr ?hp (fun _ hk => hk) trivial (Below.refl _ _) (Nat.le_refl _) (by simp) ?_; (case hd => rfl); (case hg => rfl); (case hr => first | (go_simp; done) | (go_simp; rfl)); (case hp => exact (Reps.none _ _)); intro v1 w1 ho hb hg_ hnew_; clear hg_ hnew_; have HO := Aside0.mk ho; have HB1 := Aside0.mk hb; clear ho hb) | ((with_reducible refine gate_builtin (b := .append) (xs := #[.tmp 5, .tmp 6]) rfl ?_); at_builtin; refine Kd.R_append_rows k49 (w0 := w) w.heap.size rfl (.tmp 5) (.tmp 6) 26 49 (.agg #[.string ⟨#[]⟩, .string ⟨#[]⟩, .int .i64 0, .int .i64 0, .int .i64 0, .int .i64 0, .int .i64 0, .int .i64 0, .int .i64 0, .int .i64 0, .int .i64 0, .int .i64 0]) 112 rfl Try.underlying26 info49 rfl (by decide) (by omega) v1 [] l0 _ _ _ (fun _ => True) (fun _ => False) rfl rfl HO.out (Kd.C_below hHR.out HB1.out) (fun x cs h => by obtain rfl := k49_open h; exact k49_mkM _ _ _ x) (fun _ h => h.elim) (fun _ _ => trivial) HB1.out HB1.out.size ?aL ?_; (case aL => have := hHL.out; simp; omega); intro v2 w2 ho hb hg hat; have HO2 := Aside0.mk ho; have HB2 := Aside0.mk hb; clear ho hb hg hat))
      go_ret
      exact ⟨_, rfl, HO2.out, HB2.out⟩

set_option maxHeartbeats 400000 in
set_option maxRecDepth 100000 in
theorem def_Own.calls (a0_0 : ByteArray) (a0_1 : Int) (A0_2 : Option Addr) (c0_2 : Nat) (l0_2 : List S49) (w : World) (hr : Kd.C k49 w A0_2 l0_2.length l0_2) (hl : l0_2.length < 1000000) :
    Calls Try.prog 41 #[.agg #[.string a0_0, .int .i64 a0_1, .slice A0_2 l0_2.length c0_2]] w fun e w' => ∃ A c n0, e = .returned (.agg #[.string a0_0, .int .i64 a0_1, .slice A l0_2.length c]) ∧ Kd.R k49 49 w' n0 (fun _ => True) (.slice A l0_2.length c) l0_2 ∧ l0_2.length ≤ c ∧ Below w.heap.size w w' := by
  have HR := Aside0.mk hr
  have HL := Aside0.mk hl
  clear hr hl
  go_enter Try.func41, Try.ntmps41
  go_upto_region 1 with (fail)
  have z2 := blk_new (w.alloc (.cells #[.string a0_0, .int .i64 a0_1, .slice A0_2 l0_2.length c0_2] 28)) (.cells #[.string ⟨#[]⟩, .int .i64 0, .slice none 0 0] 28)
  rw [World.size_alloc] at z2
  have z1 := blk_alloc (blk_new w (.cells #[.string a0_0, .int .i64 a0_1, .slice A0_2 l0_2.length c0_2] 28)) (.cells #[.string ⟨#[]⟩, .int .i64 0, .slice none 0 0] 28)
  have HB2 := Aside0.mk (((Below.refl w.heap.size w).alloc (Nat.le_refl _) (.cells #[.string a0_0, .int .i64 a0_1, .slice A0_2 l0_2.length c0_2] 28)).alloc (by simp) (.cells #[.string ⟨#[]⟩, .int .i64 0, .slice none 0 0] 28))
  generalize (w.alloc (.cells #[.string a0_0, .int .i64 a0_1, .slice A0_2 l0_2.length c0_2] 28)).alloc (.cells #[.string ⟨#[]⟩, .int .i64 0, .slice none 0 0] 28) = W2 at *
  obtain ⟨q, hq⟩ : ∃ q, w.heap.size = q := ⟨_, rfl⟩
  have HQ := Aside0.mk hq
  rw [hq] at z1 z2 ⊢
  clear hq
  have y2 : W2.cell? ⟨q, 2, none⟩ = some (.slice A0_2 l0_2.length c0_2) := (blk_cell z1 2).trans rfl
  have Z1 := Aside0.mk z1
  have Z2 := Aside0.mk z2
  clear z1 z2
  go_upto_region 2 with (first | (go_at_call 48; refine (clone_Step.calls A0_2 c0_2 l0_2 _ (Kd.C_below HR.out HB2.out) HL.out).mono ?_; rintro e w3 ⟨v3, rfl, hR3, hb⟩; have HO3 := Aside0.mk hR3; obtain ⟨A3, c3, rfl, hc3, hR3⟩ := Kd.R_reads hR3; have HB3 := Aside0.mk (below_step HB2.out hb); have HR3 := Aside0.mk hR3; have HC3 := Aside0.mk hc3; have Z13 := Aside0.mk (blk_below Z1.out hb); have Z23 := Aside0.mk (blk_below Z2.out hb); have y3 := blk_cell Z13.out 2; have g3 := blk_frozen Z13.out 2; clear hb hR3 hc3 Z1 Z2 HR3))
  have HB4 := Aside0.mk (HB3.out.setCell (p := ⟨q, 2, none⟩) (by rw [HQ.out]; exact Nat.le_refl _) (.slice A3 l0_2.length c3))
  have HO4 := Aside0.mk (Kd.R_set HO3.out Z13.out (by decide) 2 (.slice A3 l0_2.length c3))
  have z14 := blk_put Z13.out 2 (.slice A3 l0_2.length c3) (cs' := #[.string a0_0, .int .i64 a0_1, .slice A3 l0_2.length c3]) rfl
  have z24 := blk_far Z23.out (p := ⟨q, 2, none⟩) (by simp) (.slice A3 l0_2.length c3)
  clear HB3 HO3 Z13 Z23 y3 g3 y2 HB2
  generalize w3.setCell ⟨q, 2, none⟩ (.slice A3 l0_2.length c3) = W4 at *
  have x0 : W4.cell? ⟨q, 0, none⟩ = some (.string a0_0) := (blk_cell z14 0).trans rfl
  have x1 : W4.cell? ⟨q, 1, none⟩ = some (.int .i64 a0_1) := (blk_cell z14 1).trans rfl
  have x2 : W4.cell? ⟨q, 2, none⟩ = some (.slice A3 l0_2.length c3) := (blk_cell z14 2).trans rfl
  have y0 : W4.cell? ⟨q + 1, 0, none⟩ = some (.string ⟨#[]⟩) := (blk_cell z24 0).trans rfl
  have y1 : W4.cell? ⟨q + 1, 1, none⟩ = some (.int .i64 0) := (blk_cell z24 1).trans rfl
  have y2 : W4.cell? ⟨q + 1, 2, none⟩ = some (.slice none 0 0) := (blk_cell z24 2).trans rfl
  have f0 := blk_frozen z24 0
  have f1 := blk_frozen z24 1
  have f2 := blk_frozen z24 2
  have Z24 := Aside0.mk z24
  clear z14 z24
  go_wp2
  refine bodyPost_ret (results_cell_row rfl _ _ (q + 1) 28 #[.string a0_0, .int .i64 a0_1, .slice A3 l0_2.length c3] (0, 0) _ rfl (blk_put (blk_put (blk_put Z24.out 0 (.string a0_0) (cs' := #[.string a0_0, .int .i64 0, .slice none 0 0]) rfl) 1 (.int .i64 a0_1) (cs' := #[.string a0_0, .int .i64 a0_1, .slice none 0 0]) rfl) 2 (.slice A3 l0_2.length c3) (cs' := #[.string a0_0, .int .i64 a0_1, .slice A3 l0_2.length c3]) rfl) Try.underlying28 rfl (by kernel_rfl)) rfl ?_
  have HO5 := Kd.R_set HO4.out Z24.out (by decide) 0 (.string a0_0)
  have b5 := blk_put Z24.out 0 (.string a0_0) (cs' := #[.string a0_0, .int .i64 0, .slice none 0 0]) rfl
  have HO6 := Kd.R_set HO5 b5 (by decide) 1 (.int .i64 a0_1)
  have b6 := blk_put b5 1 (.int .i64 a0_1) (cs' := #[.string a0_0, .int .i64 a0_1, .slice none 0 0]) rfl
  have HO7 := Kd.R_set HO6 b6 (by decide) 2 (.slice A3 l0_2.length c3)
  have hq1 : w.heap.size ≤ q + 1 := by rw [HQ.out]; exact Nat.le_succ q
  exact ⟨A3, c3, _, rfl, HO7, HC3.out, ((HB4.out.setCell (p := ⟨q + 1, 0, none⟩) hq1 _).setCell (p := ⟨q + 1, 1, none⟩) hq1 _).setCell (p := ⟨q + 1, 2, none⟩) hq1 _⟩
end Go.Proofs.Ytookpfpmobbhiaa.Q
