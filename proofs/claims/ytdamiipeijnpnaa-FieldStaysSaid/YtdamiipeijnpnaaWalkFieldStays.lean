/- Behind its first error a reader takes nothing, and the error stays. -/
import Derived.Test.YtdamiipeijnpnaaBReader
import Derived.Test.YtdamiipeijnpnaaQx16
import Derived.Test.YtdamiipeijnpnaaBOpen
import Derived.OpenShut
namespace Go.Proofs.Ytdamiipeijnpnaa.Walk
set_option linter.unusedVariables false
set_option linter.unusedSimpArgs false
open Go.RowKit Go.Proofs.Ytdamiipeijnpnaa.Q Go.Proofs.YtdamiipeijnpnaaW.PrintWords Go.Proofs.YtdamiipeijnpnaaW.PrintLast Go.Proofs.YtdamiipeijnpnaaW.PrintMore Go.Proofs.Ytdamiipeijnpnaa.Opn

theorem stays_loop {l : List S29} (hl : l.length ≤ 30) : ∀ (d i k : Nat), i + d = l.length → d + 2 ≤ k → ∀ b a fa fe, Rd b a fa fe → usufructlaw04_FieldStays.l0 k l (i : Int) b a fa fe = some true
  | 0, i, k, hi, hk, b, a, fa, fe, h => by
    obtain ⟨k, rfl⟩ : ∃ j, k = j + 1 := ⟨k - 1, by omega⟩
    rw [usufructlaw04_FieldStays.l0, if_neg (by omega)]
  | d + 1, i, k, hi, hk, b, a, fa, fe, h => by
    obtain ⟨k, rfl⟩ : ∃ j, k = j + 1 + 1 := ⟨k - 2, by omega⟩
    have e1 : wrap64 ((i : Int) + 1) = ((i + 1 : Nat) : Int) := by unfold wrap64; omega
    have ih := fun b a fa fe h => stays_loop hl d (i + 1) (k + 1) (by omega) (by omega) b a fa fe h
    rw [usufructlaw04_FieldStays.l0, if_pos (by omega), err_eq, Option.bind_some]
    dsimp only
    rw [if_pos (by omega), e1]
    generalize rd_T29 l (i : Int) = x
    split
    · obtain ⟨r, a', f', e', hn, hr, hz, _⟩ := num_step h
      rw [hn, Option.bind_some]
      dsimp only
      rw [err_eq, Option.bind_some]
      dsimp only
      by_cases he : fe = 0
      · rw [if_pos he]; exact ih _ _ _ _ hr
      · obtain ⟨z1, z2, z3⟩ := hz he
        rw [if_neg he, if_pos z1, if_pos z2, if_pos z3]; exact ih _ _ _ _ hr
    · split
      · obtain ⟨r, a', f', e', hn, hr, hz⟩ := text_step h x.f1
        rw [hn, Option.bind_some]
        dsimp only
        rw [err_eq, Option.bind_some]
        dsimp only
        by_cases he : fe = 0
        · rw [if_pos he]; exact ih _ _ _ _ hr
        · obtain ⟨z1, z2, z3⟩ := hz he
          rw [if_neg he, if_pos (by rw [z1]; first | rfl | decide | kernel_rfl | simp [ByteArray.toList]), if_pos z2, if_pos z3]; exact ih _ _ _ _ hr
      · split
        · obtain ⟨r, a', f', e', hn, hr, hz⟩ := flag_step h
          rw [hn, Option.bind_some]
          dsimp only
          rw [err_eq, Option.bind_some]
          dsimp only
          by_cases he : fe = 0
          · rw [if_pos he]; exact ih _ _ _ _ hr
          · obtain ⟨z1, z2, z3⟩ := hz he
            rw [if_neg he, if_neg (by rw [z1]; decide), if_pos z2, if_pos z3]; exact ih _ _ _ _ hr
        · split
          · obtain ⟨r, a', f', e', hn, hr, hz⟩ := count_step h x.f1 x.f2
            rw [hn, Option.bind_some]
            dsimp only
            rw [err_eq, Option.bind_some]
            dsimp only
            by_cases he : fe = 0
            · rw [if_pos he]; exact ih _ _ _ _ hr
            · obtain ⟨z1, z2, z3⟩ := hz he
              rw [if_neg he, if_pos z1, if_pos z2, if_pos z3]; exact ih _ _ _ _ hr
          · split
            · obtain ⟨r, a', f', e', hn, hr, hz⟩ := end_step h k
              rw [hn, Option.bind_some]
              dsimp only
              rw [err_eq, Option.bind_some]
              dsimp only
              by_cases he : fe = 0
              · rw [if_pos he]; exact ih _ _ _ _ hr
              · obtain ⟨z1, z2, z3⟩ := hz he
                rw [if_neg he, if_neg (by rw [z1]; decide), if_pos z2, if_pos z3]; exact ih _ _ _ _ hr
            · rw [err_eq, Option.bind_some]
              dsimp only
              by_cases he : fe = 0
              · rw [if_pos he]; exact ih _ _ _ _ h
              · rw [if_neg he, if_pos rfl, if_pos rfl]; exact ih _ _ _ _ h

theorem FieldStays.pure (b : List Int) (l : List S29) : ∃ k, usufructlaw04_FieldStays.f k b l = some true := by
  refine ⟨40 + 1, ?_⟩
  unfold usufructlaw04_FieldStays.f
  rw [show usufructlaw04_awake.f = some true from rfl, Option.bind_some, if_pos rfl]
  by_cases h : (b.length : Int) > 200
  · rw [if_pos h, usufructlaw04_FieldStays.j0, if_pos rfl]
  · rw [if_neg h, usufructlaw04_FieldStays.j0]
    by_cases h2 : (l.length : Int) > 30
    · rw [if_pos (decide_eq_true h2)]
    · rw [if_neg (by rw [decide_eq_false h2]; decide)]
      unfold field_NewReader.f
      rw [if_pos (by omega), Option.bind_some]
      exact stays_loop (by omega) l.length 0 40 (by omega) (by omega) b 0 0 0 ⟨by omega, by omega, by omega, fun _ => rfl⟩
theorem FieldStays.walk (w : World) (A0 : Option Addr) (c0 : Nat) (l0 : List Int) (A1 : Option Addr) (c1 : Nat) (l1 : List S29)
    (hr0 : Kd.C (Kd.int .u8) w A0 l0.length l0) (hc0 : l0.length ≤ c0) (hm0 : c0 ≤ maxLen) (ok0 : ∀ x ∈ l0, (fun x => (Lit.int .u8 x).wf = true) x) (hr1 : Kd.C k29 w A1 l1.length l1) (hc1 : l1.length ≤ c1) (hm1 : c1 ≤ maxLen) (ok1 : ∀ x ∈ l1, (fun s : S29 => (fun x : Int × Int × Int × ByteArray × Bool => (fun x => (Lit.int .i64 x).wf = true) x.1 ∧ (fun x => (Lit.int .i64 x).wf = true) x.2.1 ∧ (fun x => (Lit.int .i64 x).wf = true) x.2.2.1 ∧ (fun x => x.size ≤ maxLen) x.2.2.2.1 ∧ (fun _ => True) x.2.2.2.2) (s.f0, (s.f1, (s.f2, (s.f3, s.f4))))) x) :
    Calls Try.prog 5 #[.slice A0 l0.length c0, .slice A1 l1.length c1] w fun e w' => e = .returned (.bool true) ∧ Below w.heap.size w w' := by
  obtain ⟨k, h⟩ := FieldStays.pure l0 l1
  exact usufructlaw04_FieldStays.calls k A0 c0 l0 A1 c1 l1 true w hr0 hc0 hr1 hc1 h
end Go.Proofs.Ytdamiipeijnpnaa.Walk
