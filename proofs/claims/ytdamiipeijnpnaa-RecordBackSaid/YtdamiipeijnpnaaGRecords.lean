/- record.records' iterator: the records of bytes, one behind the other, until one cannot be read. -/
import Derived.Test.YtdamiipeijnpnaaGRoundsS
import Derived.Test.YtdamiipeijnpnaaQx23
import Derived.RangeFuncCalls
import Derived.Shelf.Abstract
import Derived.Shelf.RegionOpen
import Derived.OwnWalkIn
import Derived.TacticsInMore
import Derived.Sort.CutIn
import Derived.LoopNIn
import Derived.LoopIn
namespace Go.Proofs.Ytdamiipeijnpnaa.Q
open Go.RowKit Go.Shelf Go.Proofs.YtdamiipeijnpnaaW.PrintWords Go.Proofs.YtdamiipeijnpnaaW.PrintLast Go.Proofs.YtdamiipeijnpnaaW.PrintMore
set_option linter.unusedVariables false
set_option linter.unusedSimpArgs false
attribute [local go_sem] Oper.semAt_some

/-- What a round is handed: the place behind a record, and its payload where it lies. -/
abbrev RecV := Int × Option Addr × Nat × List Int
def encR (x : RecV) : Array Value := #[.int .i64 x.1, .slice x.2.1 x.2.2.2.length x.2.2.1]
def recP (x : RecV) : Int × List Int := (x.1, x.2.2.2)
/-- The records from a place on. -/
inductive Recs (k : Nat) (bs : List Int) : Int → List (Int × List Int) → Prop
  | stop {at_ : Int} {p : List Int} {n e : Int} : record_Get.f k bs at_ = some (p, n, e) → e ≠ 0 → Recs k bs at_ []
  | step {at_ : Int} {p : List Int} {n : Int} {l : List (Int × List Int)} : record_Get.f k bs at_ = some (p, n, 0) → Recs k bs (wrap64 (at_ + n)) l → Recs k bs at_ ((wrap64 (at_ + n), p) :: l)

theorem recs_one {k : Nat} {bs : List Int} {a : Int} {l l' : List (Int × List Int)} (h : Recs k bs a l) : Recs k bs a l' → l = l' := by
  induction h generalizing l' with
  | stop hg he =>
    intro h'
    cases h' with
    | stop _ _ => rfl
    | step hg' _ =>
      rw [hg] at hg'
      cases hg'
      exact absurd rfl he
  | step hg _ ih =>
    intro h'
    cases h' with
    | stop hg' he' =>
      rw [hg] at hg'
      cases hg'
      exact absurd rfl he'
    | step hg' hr =>
      rw [hg] at hg'
      cases hg'
      rw [ih hr]
open Classical in
/-- How many records there are from a place on. -/
noncomputable def recLen (k : Nat) (bs : List Int) (a : Int) : Nat := if h : ∃ l, Recs k bs a l then h.choose.length else 0
theorem recLen_eq {k : Nat} {bs : List Int} {a : Int} {l : List (Int × List Int)} (h : Recs k bs a l) : recLen k bs a = l.length := by
  unfold recLen
  rw [dif_pos ⟨l, h⟩, recs_one (Exists.choose_spec ⟨l, h⟩) h]

set_option maxRecDepth 100000 in
set_option maxHeartbeats 4000000 in
theorem records_rounds (b : Nat) (A : Option Addr) (c : Nat) (bs : List Int) (k : Nat) (Z : List (Int × List Int)) (hZ : Recs k bs 0 Z) (Kp : World → World → Prop) (w0 w : World) (hw : Below w0.heap.size w0 w) (hb : w.heap[b]? = some (.cells #[.slice A bs.length c] 25 (0, 0)))
    (hr : Kd.C (Kd.int .u8) w0 A bs.length bs) (hc : bs.length ≤ c) (hKp : ∀ W W', Kp W W' → w.heap.size ≤ W.heap.size → W'.heap[b]? = W.heap[b]? ∧ Below w0.heap.size W W') (hKs : ∀ W W', Kp W W' → W.heap.size ≤ W'.heap.size) :
    RoundsS Fence.wide 7 Try.prog 52 #[.pointer (some ⟨b, 0, none⟩)] encR Kp (fun pre x W0 W => (∃ rest, Z = pre.map recP ++ recP x :: rest) ∧ w.heap.size ≤ W0.heap.size ∧ Kd.R (Kd.int .u8) 5 W W0.heap.size (fun _ => True) (.slice x.2.1 x.2.2.2.length x.2.2.1) x.2.2.2) (fun ys => ys.map recP = Z) w := fun l J W hW hJ hY h0 => by
  have z := (hW.block b (Array.getElem?_eq_some_iff.1 hb).1).trans hb
  refine callsIn_of_wp Try.func52 rfl trivial ?_ rfl
  simp only [Try.ntmps52, List.size_toArray, List.length_cons, List.length_nil, Nat.reduceAdd, Nat.reduceSub, Array.replicate_succ, Array.replicate_zero, List.push_toArray, List.append_toArray, List.nil_append, List.cons_append]
  gi_wp2
  gi_loopw [3] (fun v3 wr => ∃ (a : Int) (pre : List RecV) (rest : List (Int × List Int)), v3 = .int .i64 a ∧ Z = pre.map recP ++ rest ∧ Recs k bs a rest ∧ J pre wr ∧ Aside0 (Below w0.heap.size w0 wr) ∧ Aside0 (w.heap.size ≤ wr.heap.size) ∧ Aside0 (wr.heap[b]? = some (.cells #[.slice A bs.length c] 25 (0, 0)))) (fun v _ => recLen k bs (intOf v))
  case atStart => exact ⟨0, [], Z, rfl, rfl, hZ, h0, ⟨hw.trans (hW.mono hw.size)⟩, ⟨hW.size⟩, ⟨z⟩⟩
  case round =>
    obtain ⟨a, pre, rest, rfl, hz, hrec, hJs, HW, HS, HB⟩ := hrel
    have hbx := HB.out
    have y0 : wr.cell? ⟨b, 0, none⟩ = some (.slice A bs.length c) := (blk_cell hbx 0).trans rfl
    have hfn : Fence.wide.fn 31 := trivial
    cases hrec with
    | stop hg he =>
      rename_i p n e
      have he1 : (e == 0) = false := beq_eq_false_iff_ne.mpr he
      have he2 : (e != 0) = true := by rw [bne, he1]; rfl
      clear he
      gi_wp2_with (gi_at_call 31; refine (callsIn_wide.2 (record_Get.calls k A c bs a p n e _ (Kd.C_below hr HW.out) hc hg)).mono ?_; rintro e2 w2 ⟨v0, rfl, hR, hb2⟩; have J2 := hJ _ wr w2 none hJs (grown_of_below hb2 none) (fun r h => by cases h))
      refine ⟨fun _ h => (by cases h), ?_⟩
      gi_wp2
      refine bodyPost_ret (results_none rfl _ _ _) rfl ?_
      exact ⟨⟨_, rfl⟩, pre, by rw [hz, List.append_nil], J2⟩
    | step hg hrec =>
      rename_i p n l'
      gi_wp2_with (gi_at_call 31; refine (callsIn_wide.2 (record_Get.calls k A c bs a p n 0 _ (Kd.C_below hr HW.out) hc hg)).mono ?_; rintro e2 w2 ⟨v0, rfl, hR, hb2⟩; obtain ⟨A2, c2, rfl, hc2, hC2⟩ := Kd.R_reads hR; obtain ⟨fn, tmps, assign, body, hy, hRd⟩ := hY pre (wrap64 (a + n), A2, c2, p) wr w2 hJs hb2 ⟨⟨l', hz⟩, HS.out, hR⟩; (try dsimp only [encR] at hy))
      refine hRd.mono ?_
      rintro e3 w3 ⟨rfl, J3, hk3, _⟩
      have hS3 : w.heap.size ≤ w2.heap.size := Nat.le_trans HS.out hb2.size
      obtain ⟨hb3, hw3⟩ := hKp _ _ hk3 hS3
      have hbb : w2.heap[b]? = some (.cells #[.slice A bs.length c] 25 (0, 0)) := (hb2.block b (Array.getElem?_eq_some_iff.1 HB.out).1).trans HB.out
      have hW2 : Below w0.heap.size w0 w2 := HW.out.trans (hb2.mono HW.out.size)
      gi_wp2
      go_roundw
      case rel => exact ⟨wrap64 (a + n), pre ++ [(wrap64 (a + n), A2, c2, p)], l', rfl, by rw [hz, List.map_append, List.append_assoc]; rfl, hrec, J3, ⟨hW2.trans hw3⟩, ⟨Nat.le_trans hS3 (hKs _ _ hk3)⟩, ⟨hb3.trans hbb⟩⟩
      case measure =>
        show recLen k bs (intOf (.int .i64 (wrap64 (a + n)))) < recLen k bs (intOf (.int .i64 a))
        rw [show intOf (.int .i64 (wrap64 (a + n))) = wrap64 (a + n) from rfl, show intOf (.int .i64 a) = a from rfl, recLen_eq hrec, recLen_eq (.step hg hrec), List.length_cons]
        omega
end Go.Proofs.Ytdamiipeijnpnaa.Q
