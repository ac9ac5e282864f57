/- quota: find, may, within: what only reads a gate. -/
import Derived.Test.YtchfkkpghipeiaaDoorQx6
import Derived.Test.YtchfkkpghipeiaaDoorQx5
import Derived.RangeFuncCalls
import Derived.Shelf.Abstract
import Derived.Shelf.RegionOpen
import Derived.OwnWalkIn
import Derived.TacticsInMore
import Derived.Sort.CutIn
import Derived.LoopNIn
import Derived.LoopIn
import Derived.Lib.SliceRun
import Derived.Lib.Hide
import Derived.Outline
namespace Go.Proofs.YtchfkkpghipeiaaDoor.Q
open Go.RowKit Go.Shelf Go.Proofs.YtchfkkpghipeiaaDoorW.PrintWords Go.Proofs.YtchfkkpghipeiaaDoorW.PrintLast Go.Proofs.YtchfkkpghipeiaaDoorW.PrintMore
set_option linter.unusedVariables false
set_option linter.unusedSimpArgs false
attribute [local go_sem] Oper.semAt_some

/-- A gate, as it reads. -/
def RdG (w : World) (g : Nat) (l : List S46) (t : Int) : Prop := ∃ A c, w.heap[g]? = some (.cells #[.slice A l.length c, .int .i64 t] 42 (0, 0)) ∧ Kd.C k46 w A l.length l ∧ l.length ≤ c
theorem RdG.below {w w' : World} {g : Nat} {l : List S46} {t : Int} (h : RdG w g l t) (hb : Below w.heap.size w w') : RdG w' g l t := by
  obtain ⟨A, c, h1, h2, h3⟩ := h
  exact ⟨A, c, (hb.block _ (blk_lt h1)).trans h1, Kd.C_below h2 hb, h3⟩

/-- The first place from j on, or -1. -/
def firstI {α : Type} (p : α → Bool) : List α → Int → Int
  | [], _ => -1
  | a :: l, j => if p a = true then j else firstI p l (j + 1)
theorem firstI_at {α : Type} (p : α → Bool) (l : List α) (j : Nat) (h : j < l.length) : firstI p (l.drop j) (j : Int) = if p l[j] = true then (j : Int) else firstI p (l.drop (j + 1)) ((j + 1 : Nat) : Int) := by
  rw [List.drop_eq_getElem_cons h, firstI]
  rfl

def isNamed (s : ByteArray) (d : S46) : Bool := d.f0.f0.toList == s.toList

/-- A row's value. -/
def rowV (x : S46) (A : Option Addr) (c : Nat) : Value := .agg #[.string x.f0.f0, .int .i64 x.f0.f1, .int .i64 x.f0.f2, .slice A x.f1.length c]

set_option maxRecDepth 100000 in
set_option maxHeartbeats 2000000 in
theorem find_closure.calls (bs : Nat) (s : ByteArray) (x : S46) (A2 : Option Addr) (c2 : Nat) (W : World) (hs : W.cell? ⟨bs, 0, none⟩ = some (.string s)) :
    Calls Tryd.prog 30 (#[.agg #[.string x.f0.f0, .int .i64 x.f0.f1, .int .i64 x.f0.f2, .slice A2 x.f1.length c2]] ++ #[.pointer (some ⟨bs, 0, none⟩)]) W fun e W' => e = .returned (.bool (isNamed s x)) ∧ Below W.heap.size W W' := by
  have HS := Aside0.mk (World.block_lt_of_cell? W _ hs)
  have HC := Aside0.mk hs
  clear hs
  rw [show (#[Value.agg #[.string x.f0.f0, .int .i64 x.f0.f1, .int .i64 x.f0.f2, .slice A2 x.f1.length c2]] ++ #[Value.pointer (some ⟨bs, 0, none⟩)] : Array Value) = #[.agg #[.string x.f0.f0, .int .i64 x.f0.f1, .int .i64 x.f0.f2, .slice A2 x.f1.length c2], .pointer (some ⟨bs, 0, none⟩)] from rfl]
  go_enter Tryd.func30, Tryd.ntmps30
  go_wp2_with (first | ((with_reducible refine gate_dst (N := 2) rfl ?_); refine box_event ?hg (N := 2) ?hd (cs := #[.string x.f0.f0, .int .i64 x.f0.f1, .int .i64 x.f0.f2, .slice A2 x.f1.length c2]) (t := 46) ?hr ?_; (case hd => rfl); (case hg => rfl); (case hr => first | (go_simp; done) | (go_simp; rfl)); intro b1 hg w1 hbox hb; have HB1 := Aside0.mk hb; have g0 := (blk_cell hbox 0).trans rfl; have g1 := (hb.cell (p := ⟨bs, 0, none⟩) HS.out).trans HC.out; clear hb hbox hg))
  go_ret
  exact ⟨rfl, HB1.out⟩

set_option maxRecDepth 100000 in
set_option maxHeartbeats 2000000 in
theorem index_Row.calls (bs : Nat) (s : ByteArray) (A0 : Option Addr) (c0 : Nat) (l0 : List S46) (w : World) (hr0 : Kd.C k46 w A0 l0.length l0) (hl : l0.length < 1000000)
    (hs : w.cell? ⟨bs, 0, none⟩ = some (.string s)) :
    Calls Tryd.prog 29 #[.slice A0 l0.length c0, .func (.func 30) #[] #[.pointer (some ⟨bs, 0, none⟩)]] w fun e w' => e = .returned (.int .i64 (firstI (isNamed s) l0 0)) ∧ Below w.heap.size w w' := by
  have HR := Aside0.mk hr0
  have HSc := Aside0.mk hs
  have HB0 := Aside0.mk (Below.refl w.heap.size w)
  clear hr0 hs
  go_enter Tryd.func29, Tryd.ntmps29
  go_wp2
  go_loopw [8] (fun v8 W => ∃ j : Nat, j ≤ l0.length ∧ v8 = .int .i64 (j : Int) ∧ Aside0 (firstI (isNamed s) l0 0 = firstI (isNamed s) (l0.drop j) (j : Int)) ∧ Aside0 (Below w.heap.size w W)) (fun v8 _ => l0.length - (intOf v8).toNat)
  case atStart => exact ⟨0, Nat.zero_le _, rfl, ⟨rfl⟩, HB0⟩
  case round =>
    clear HB0
    obtain ⟨j, hj, rfl, HF, HB⟩ := hrel
    by_cases hlt : j < l0.length
    · have HFA := Aside0.mk (HF.out.trans (firstI_at (isNamed s) l0 j hlt))
      obtain ⟨ad, A2, c2, e, x0, x1, x2, x3, hc2, hr2⟩ := at_T46 HR.out (j : Int) (by omega) (by omega)
      have HX := Aside0.mk (show rd_T46 l0 (j : Int) = l0[j] by
        unfold rd_T46
        rw [Int.toNat_natCast, List.getD_eq_getElem?_getD, List.getElem?_eq_getElem hlt]
        rfl)
      rw [← HX.out] at HFA
      cases e
      replace x0 := (HB.out.cell (World.block_lt_of_cell? w _ x0)).trans x0
      replace x1 := (HB.out.cell (World.block_lt_of_cell? w _ x1)).trans x1
      replace x2 := (HB.out.cell (World.block_lt_of_cell? w _ x2)).trans x2
      replace x3 := (HB.out.cell (World.block_lt_of_cell? w _ x3)).trans x3
      have HSw := Aside0.mk ((HB.out.cell (World.block_lt_of_cell? w _ HSc.out)).trans HSc.out)
      clear HX hr2 hc2
      generalize rd_T46 l0 (j : Int) = d at *
      obtain ⟨i, hi⟩ : ∃ i : Int, (j : Int) = i := ⟨_, rfl⟩
      have HI := Aside0.mk hi
      have hp1 : (0 ≤ i) = True := eq_true (by omega)
      have hq1 : (i < (l0.length : Int)) = True := eq_true (by omega)
      have hd1 : decide (i < (l0.length : Int)) = true := decide_eq_true (by omega)
      have HK := Aside0.mk (show wrap64 (i + 1) = ((j + 1 : Nat) : Int) by unfold wrap64; omega)
      rw [hi] at x0 x1 x2 x3 HFA ⊢
      clear hi
      by_cases hnm : isNamed s d = true
      · rw [if_pos hnm] at HFA
        go_wp2_with (first | (go_at_call 30; refine (find_closure.calls bs s d A2 c2 _ HSw.out).mono ?_; rw [hnm]; rintro e w5 ⟨rfl, hb⟩; have HB5 := Aside0.mk (below_step HB.out hb); clear hb))
        go_ret
        exact ⟨by rw [HFA.out]; rfl, HB5.out⟩
      · rw [if_neg hnm] at HFA
        have hnm' : isNamed s d = false := Bool.eq_false_iff.mpr hnm
        go_wp2_with (first | (go_at_call 30; refine (find_closure.calls bs s d A2 c2 _ HSw.out).mono ?_; rw [hnm']; rintro e w5 ⟨rfl, hb⟩; have HB5 := Aside0.mk (below_step HB.out hb); clear hb))
        go_roundw
        case rel => exact ⟨j + 1, by omega, by rw [HK.out], HFA, HB5⟩
        case measure => have := HI.out; simp [intOf, HK.out]; omega
    · have hjl : j = l0.length := by omega
      subst hjl
      have hd1 : decide ((l0.length : Int) < (l0.length : Int)) = false := decide_eq_false (by omega)
      go_wp2
      go_ret
      exact ⟨by rw [HF.out, List.drop_length]; rfl, HB.out⟩

set_option maxRecDepth 100000 in
set_option maxHeartbeats 2000000 in
theorem quota_find.calls (g : Nat) (s : ByteArray) (l : List S46) (t : Int) (w : World) (hG : RdG w g l t) (hl : l.length < 1000000) :
    Calls Tryd.prog 15 #[.pointer (some ⟨g, 0, none⟩), .string s] w fun e w' => e = .returned (.int .i64 (firstI (isNamed s) l 0)) ∧ Below w.heap.size w w' := by
  obtain ⟨A, c, hb, hC, hc⟩ := hG
  have HG := Aside0.mk (blk_lt hb)
  have HC := Aside0.mk hC
  have HB := Aside0.mk (Below.refl w.heap.size w)
  have g0 : w.cell? ⟨g, 0, none⟩ = some (.slice A l.length c) := (blk_cell hb 0).trans rfl
  have G0 := Aside0.mk g0
  clear hC hb g0
  go_enter Tryd.func15, Tryd.ntmps15
  go_wp2_with (first | ((with_reducible refine gate_dst (N := 3) rfl ?_); refine box_event ?hg (N := 3) ?hd (cs := #[.string s]) (t := 9) ?hr ?_; (case hd => rfl); (case hg => rfl); (case hr => first | (go_simp; done) | (go_simp; rfl)); intro b1 hg w1 hbox hb; have HB1 := Aside0.mk hb; have BX1 := Aside0.mk hbox; have g1 := (hb.cell (p := ⟨g, 0, none⟩) HG.out).trans G0.out; clear hb hbox hg) | (go_at_call 29; refine (index_Row.calls b1 s A c l _ (Kd.C_below HC.out HB1.out) hl ((blk_cell BX1.out 0).trans rfl)).mono ?_; rintro e w3 ⟨rfl, hb⟩; have HB3 := Aside0.mk (below_step HB1.out hb); clear hb))
  go_ret
  exact ⟨rfl, HB3.out⟩

set_option maxRecDepth 100000 in
set_option maxHeartbeats 2000000 in
theorem quota_may.calls (g : Nat) (n : Int) (l : List S46) (t : Int) (w : World) (hG : RdG w g l t) :
    Calls Tryd.prog 16 #[.pointer (some ⟨g, 0, none⟩), .int .i64 n] w fun e w' => e = .returned (.bool (decide (0 ≤ n) && decide (n ≤ 1099511627776) && decide (t ≤ n))) ∧ Below w.heap.size w w' := by
  obtain ⟨A, c, hb, hC, hc⟩ := hG
  have HG := Aside0.mk hb
  have HB := Aside0.mk (Below.refl w.heap.size w)
  clear hC hb
  have e1 : tick_Good.f n = some (decide (0 ≤ n) && decide (n ≤ 1099511627776)) := by
    unfold tick_Good.f
    by_cases h : n ≥ 0
    · rw [if_pos h, decide_eq_true (show 0 ≤ n from h)]; rfl
    · rw [if_neg h, decide_eq_false h]; rfl
  have E1 := Aside0.mk e1
  clear e1
  generalize (decide (0 ≤ n) && decide (n ≤ 1099511627776)) = b at *
  go_enter Tryd.func16, Tryd.ntmps16
  cases b <;> go_wp2_with (first | (go_at_call 26; refine (tick_Good.calls n _ _ E1.out).mono ?_; rintro e w1 ⟨rfl, ⟨nd, rfl⟩⟩; have g1 : (w.drewN nd).cell? ⟨g, 1, none⟩ = some (.int .i64 t) := (blk_cell HG.out 1).trans rfl))
  all_goals go_ret
  · exact ⟨rfl, pw_below_drewN HB.out _⟩
  · exact ⟨by simp, pw_below_drewN HB.out _⟩
end Go.Proofs.YtchfkkpghipeiaaDoor.Q
