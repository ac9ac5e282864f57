/- quota: within: the ticks of a row that lie within the window of a tick. -/
import Derived.Test.YtchfkkpghipeiaaDoorGQuotaFind
namespace Go.Proofs.YtchfkkpghipeiaaDoor.Q
open Go.RowKit Go.Shelf Go.Proofs.YtchfkkpghipeiaaDoorW.PrintWords Go.Proofs.YtchfkkpghipeiaaDoorW.PrintLast Go.Proofs.YtchfkkpghipeiaaDoorW.PrintMore
set_option linter.unusedVariables false
set_option linter.unusedSimpArgs false

/-- The ticks behind lim. -/
def withinL (ts : List Int) (lim : Int) : List Int := ts.dropWhile (fun t => decide (t ≤ lim))
theorem withinL_stop (ts : List Int) (lim : Int) (j : Nat) (h : j < ts.length) (hg : ¬ ts[j] ≤ lim) : withinL (ts.drop j) lim = ts.drop j := by
  unfold withinL
  rw [List.drop_eq_getElem_cons h, List.dropWhile_cons, if_neg (by simpa using hg)]
theorem withinL_go (ts : List Int) (lim : Int) (j : Nat) (h : j < ts.length) (hg : ts[j] ≤ lim) : withinL (ts.drop j) lim = withinL (ts.drop (j + 1)) lim := by
  unfold withinL
  rw [List.drop_eq_getElem_cons h, List.dropWhile_cons, if_pos (by simpa using hg)]

/-- 'xs[m:len(xs):len(xs)]'. -/
theorem cut_pin {P : Program} (t e : TypeId) {i : TypeInfo} (ht : P.underlying t = some (.slice e)) (hi : P.info? e = some i) (hsz : i.size = 1) (A : Option Addr) (c : Nat) (xs : List Int) (hc : xs.length ≤ c) (j : Int) (m : Nat) (hj : (m : Int) = j) (hm : m ≤ xs.length) :
    ∃ A' : Option Addr, (∀ W : World, (Instr.slice t (.slice A xs.length c) (some (.int .i64 j)) (some (.int .i64 (xs.length : Int))) (some (.int .i64 (xs.length : Int)))).run P W = .ok (.slice A' (xs.drop m).length (xs.drop m).length) W) ∧
      ∀ w : World, Kd.C (Kd.int .i64) w A xs.length xs → Kd.C (Kd.int .i64) w A' (xs.drop m).length (xs.drop m) := by
  refine ⟨if xs.length = m then A else A.map (·.add (m * 1)), fun W => ?_, fun w h => Kd.C_drop h hm (Nat.le_refl _)⟩
  have hel : P.elem t = e := by simp [Program.elem, ht]
  have hu : P.underlying t = some (.slice (P.elem t)) := by rw [hel]; exact ht
  subst hj
  rw [run_slice_lhm W t A xs.length c hu .i64 .i64 .i64 (m : Int) (xs.length : Int) (xs.length : Int) (Int.natCast_nonneg _) (by omega) (by omega) (by omega), hel]
  simp [sizeOf, typeInfo, hi, hsz, sliced, Result.andThen]

set_option maxRecDepth 100000 in
set_option maxHeartbeats 2000000 in
theorem row_within.calls (nm : ByteArray) (mo win : Int) (ts : List Int) (A : Option Addr) (c : Nat) (now lim : Int) (hlim : wrap64 (now - win) = lim) (w : World) (hC : Kd.C (Kd.int .i64) w A ts.length ts) (hc : ts.length ≤ c) (hl : ts.length < 1000000) :
    Calls Tryd.prog 17 #[.agg #[.string nm, .int .i64 mo, .int .i64 win, .slice A ts.length c], .int .i64 now] w fun e w' => ∃ A', e = .returned (.slice A' (withinL ts lim).length (withinL ts lim).length) ∧ (∀ W : World, Kd.C (Kd.int .i64) W A ts.length ts → Kd.C (Kd.int .i64) W A' (withinL ts lim).length (withinL ts lim)) ∧ Below w.heap.size w w' := by
  have HR := Aside0.mk hC
  have HCc := Aside0.mk hc
  have HL := Aside0.mk hl
  clear hC hc hl
  have hlim' : IntKind.i64.wrap (now - win) = lim := (i64_w _).trans hlim
  go_enter Tryd.func17, Tryd.ntmps17
  go_wp2_with (first | ((with_reducible refine gate_dst (N := 2) rfl ?_); refine box_event ?hg (N := 2) ?hd (cs := #[.string nm, .int .i64 mo, .int .i64 win, .slice A ts.length c]) (t := 46) ?hr ?_; (case hd => rfl); (case hg => rfl); (case hr => first | (go_simp; done) | (go_simp; rfl)); intro b1 hg w1 hbox hb; have HB1 := Aside0.mk hb; have BX := Aside0.mk hbox; have HR1 := Aside0.mk (Kd.C_below HR.out hb); clear hb hbox hg))
  have y2 : w1.cell? ⟨b1, 2, none⟩ = some (.int .i64 win) := (blk_cell BX.out 2).trans rfl
  have y3 : w1.cell? ⟨b1, 3, none⟩ = some (.slice A ts.length c) := (blk_cell BX.out 3).trans rfl
  go_loopw [5] (fun v5 W => ∃ j : Nat, j ≤ ts.length ∧ v5 = .int .i64 (j : Int) ∧ Aside0 (withinL ts lim = withinL (ts.drop j) lim) ∧ ∃ m, W = w1.drewN m) (fun v5 _ => ts.length - (intOf v5).toNat)
  case atStart => exact ⟨0, Nat.zero_le _, rfl, ⟨rfl⟩, 0, rfl⟩
  case round =>
    obtain ⟨j, hj, rfl, HF, m, rfl⟩ := hrel
    by_cases hlt : j < ts.length
    · obtain ⟨i, hi⟩ : ∃ i : Int, (j : Int) = i := ⟨_, rfl⟩
      have HI := Aside0.mk hi
      obtain ⟨ad, e, hx⟩ := Kd.at_int HR1.out i (by omega) (by omega)
      cases e
      have hp1 : (0 ≤ i) = True := eq_true (by omega)
      have hq1 : (i < (ts.length : Int)) = True := eq_true (by omega)
      have hd1 : decide (i < (ts.length : Int)) = true := decide_eq_true (by omega)
      have HK := Aside0.mk (show wrap64 (i + 1) = ((j + 1 : Nat) : Int) by unfold wrap64; have := HL.out; omega)
      have hrd : rd ts i = ts[j] := by
        subst hi
        unfold rd
        rw [Int.toNat_natCast, List.getD_eq_getElem?_getD, List.getElem?_eq_getElem hlt]
        rfl
      by_cases hle : ts[j] ≤ lim
      · have HG := Aside0.mk (HF.out.trans (withinL_go ts lim j hlt hle))
        rw [← hrd] at hle
        have hd2 : decide (rd ts i ≤ lim) = true := decide_eq_true hle
        clear hle hrd
        rw [hi]
        clear hi
        go_wp2
        repeat (go_quiet (fail); try go_wp2)
        go_roundw
        case rel => exact ⟨j + 1, by omega, by rw [HK.out], HG, _, by first | rfl | exact (World.drewN_drewN _ _ _)⟩
        case measure => have := HI.out; simp [intOf, HK.out]; omega
      · have HG := Aside0.mk (HF.out.trans (withinL_stop ts lim j hlt hle))
        rw [← hrd] at hle
        have hd2 : decide (rd ts i ≤ lim) = false := decide_eq_false hle
        obtain ⟨A', hcut, hCut⟩ := cut_pin (P := Tryd.prog) 24 3 rfl rfl rfl (some ad) c ts HCc.out i j hi (by omega)
        have HCut := Aside0.mk hCut
        clear hle hrd hCut
        rw [hi]
        clear hi
        go_wp2
        repeat (go_quiet (fail); try go_wp2)
        go_ret
        rw [HG.out]
        exact ⟨A', by rw [List.length_drop]; rfl, HCut.out, pw_below_drewN HB1.out _⟩
    · have hjl : j = ts.length := by omega
      subst hjl
      have HG := Aside0.mk HF.out
      obtain ⟨A', hcut, hCut⟩ := cut_pin (P := Tryd.prog) 24 3 rfl rfl rfl A c ts HCc.out (ts.length : Int) ts.length rfl (Nat.le_refl _)
      have HCut := Aside0.mk hCut
      clear hCut
      have hd1 : decide ((ts.length : Int) < (ts.length : Int)) = false := decide_eq_false (by omega)
      go_wp2
      repeat (go_quiet (fail); try go_wp2)
      go_ret
      rw [HG.out, List.drop_length] at *
      exact ⟨A', rfl, HCut.out, pw_below_drewN HB1.out _⟩
end Go.Proofs.YtchfkkpghipeiaaDoor.Q
