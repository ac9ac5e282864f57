/- slices.Concat at bytes: a walk. -/
import Derived.Test.YtdamiipeijnpnaaGGrow
namespace Go.Proofs.Ytdamiipeijnpnaa.Q
open Go.RowKit Go.Proofs.YtdamiipeijnpnaaW.PrintWords Go.Proofs.YtdamiipeijnpnaaW.PrintLast Go.Proofs.YtdamiipeijnpnaaW.PrintMore
set_option linter.unusedVariables false
set_option linter.unusedSimpArgs false

def slices_Concat_byte_byte.f (l0 : List (List Int)) : Option (List Int) := if l0.flatten.length < 140737488355328 then some l0.flatten else none
theorem flat_step {l0 : List (List Int)} {k : Nat} (h : k < l0.length) : (l0.take (k + 1)).flatten = (l0.take k).flatten ++ l0.getD k [] := by
  rw [List.take_succ_eq_append_getElem h, List.flatten_append]
  simp [h]
theorem flat_le (l0 : List (List Int)) (k : Nat) : (l0.take k).flatten.length ≤ l0.flatten.length := by
  conv => rhs; rw [← List.take_append_drop k l0, List.flatten_append, List.length_append]
  omega
/-- An element of a row of rows, as it is read. -/
theorem row_at {w : World} {A : Option Addr} {xs : List (List Int)} (h : Kd.C (Kd.slice 5 (Kd.int .u8)) w A xs.length xs) {k : Nat} (hk : k < xs.length) :
    ∃ ad Ai ci, A = some ad ∧ w.cell? (ad.add k) = some (.slice Ai (xs.getD k []).length ci) ∧ (xs.getD k []).length ≤ ci ∧ Kd.C (Kd.int .u8) w Ai (xs.getD k []).length (xs.getD k []) := by
  obtain ⟨ad, c, e, hs, ⟨Ai, ci, rfl, h1, h2⟩, hc⟩ := Kd.C_get h [] (k : Int) (by omega) (by omega)
  rw [Int.toNat_natCast] at *
  have h3 := hc 0 _ rfl
  exact ⟨ad, Ai, ci, e, by simpa [Kd.slice] using h3, h1, h2⟩

set_option maxHeartbeats 800000 in
set_option maxRecDepth 100000 in
theorem slices_Concat_byte_byte.calls (A0 : Option Addr) (c0 : Nat) (l0 : List (List Int)) (r : List Int) (w : World) (hr0 : Kd.C (Kd.slice 5 (Kd.int .u8)) w A0 l0.length l0) (hc0 : l0.length ≤ c0) (h : slices_Concat_byte_byte.f l0 = some r) :
    Calls Try.prog 43 #[.slice A0 l0.length c0] w fun e w' => ∃ v0_ : Value, e = .returned (v0_) ∧ Kd.R (Kd.int .u8) 5 w' w.heap.size (fun _ => True) v0_ r ∧ Below w.heap.size w w' := by
  unfold slices_Concat_byte_byte.f at h
  by_cases hl : l0.flatten.length < 140737488355328
  · rw [if_pos hl] at h
    have HE := Aside0.mk (Option.some.inj h)
    have HL := Aside0.mk hl
    have HR := Aside0.mk hr0
    have HN := Aside0.mk hr0.2.1
    clear h hl hr0 hc0
    go_enter Try.func43, Try.ntmps43
    go_wp2
    go_loop [3, 11] (fun v3 v11 => ∃ k : Nat, k ≤ l0.length ∧ v11 = .int .i64 k ∧ v3 = .int .i64 ((l0.take k).flatten.length : Nat)) (fun _ v11 => l0.length - (intOf v11).toNat)
    case atStart => exact ⟨0, by omega, rfl, rfl⟩
    case round =>
      obtain ⟨k, hk, rfl, rfl⟩ := hrel
      have hn := HN.out
      have hL := HL.out
      by_cases hlt : k < l0.length
      · obtain ⟨ad, Ai, ci, e, hx, hci, _⟩ := row_at HR.out hlt
        cases e
        have hs := Aside0.mk (congrArg List.length (flat_step hlt))
        have hle := flat_le l0 (k + 1)
        rw [hs.out, List.length_append] at hle
        generalize l0.getD k [] = li at *
        have hs2 := Aside0.mk (hs.out.trans List.length_append)
        clear hs
        generalize ((l0.take k).flatten.length) = n at *
        go_wp2
        go_round
        case rel => exact ⟨k + 1, by omega, by go_num, by rw [hs2.out]; go_num⟩
        case measure => simp [intOf]; omega
      · have hke : Aside0 (k = l0.length) := Aside0.mk (by omega)
        have hfl := flat_le l0 k
        have HT := Aside0.mk (show (l0.take k).flatten.length < 140737488355328 by omega)
        generalize ((l0.take k).flatten.length) = n at *
        go_wp2_with (first | (go_at_call 50; refine (grow_nil _ _ (by omega) (by have := HT.out; omega)).mono ?_; rintro e w1 ⟨v1, rfl, ho1, hb1⟩; have HO1 := Aside0.mk ho1; have HB1 := Aside0.mk hb1; clear ho1 hb1))
        go_loopw [6, 27] (fun v6 v27 W => ∃ j : Nat, j ≤ l0.length ∧ v27 = .int .i64 j ∧ Aside0 (Kd.R (Kd.int .u8) 5 W w.heap.size (fun _ => True) v6 (l0.take j).flatten) ∧ Aside0 (Below w.heap.size w W)) (fun _ v27 _ => l0.length - (intOf v27).toNat)
        case atStart => exact ⟨0, by omega, rfl, HO1, HB1⟩
        case round =>
          clear HO1 HB1
          obtain ⟨j, hj, rfl, HO, HB⟩ := hrel
          by_cases hlj : j < l0.length
          · obtain ⟨ad, Ai, ci, e, hx, hci, hri⟩ := row_at (Kd.C_below HR.out HB.out) hlj
            cases e
            have hs := Aside0.mk (flat_step hlj)
            have hle := flat_le l0 (j + 1)
            rw [hs.out, List.length_append] at hle
            have HLL := Aside0.mk (show ((l0.take j).flatten.length + (l0.getD j []).length) * 1 ≤ 140737488355328 by omega)
            have HRI := Aside0.mk hri
            clear hri hle
            generalize hli : l0.getD j [] = li at *
            clear hli
            go_wp2_with (first | ((with_reducible refine gate_builtin (b := .append) (xs := #[.tmp 31, .tmp 32]) rfl ?_); at_builtin; refine Kd.R_append_rows (Kd.int .u8) (w0 := w) w.heap.size rfl (.tmp 31) (.tmp 32) 25 5 (.int .u8 0) 1 rfl Try.underlying25 infoB rfl (by decide) (by omega) _ (l0.take j).flatten li _ _ _ (fun _ => True) (fun _ => False) rfl rfl HO.out HRI.out (fun _ _ h => h) (fun _ h => h.elim) (fun _ _ => trivial) HB.out HB.out.size HLL.out ?_; intro v2 w2 ho hb hg hat; have HO2 := Aside0.mk ho; have HB2 := Aside0.mk hb; clear ho hb hg hat))
            go_roundw
            case rel => exact ⟨j + 1, by omega, by go_num, by rw [hs.out]; exact HO2, HB2⟩
            case measure => simp [intOf]; omega
          · have hfin := Aside0.mk (show (l0.take j).flatten = l0.flatten by rw [List.take_of_length_le (by omega)])
            go_wp2
            go_ret
            refine ⟨_, rfl, ?_, HB.out⟩
            rw [← HE.out, ← hfin.out]
            exact HO.out
  · rw [if_neg hl] at h
    cases h
end Go.Proofs.Ytdamiipeijnpnaa.Q
