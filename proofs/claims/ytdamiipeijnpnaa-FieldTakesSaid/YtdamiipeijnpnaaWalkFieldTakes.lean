/- Whatever is taken of any bytes, in any order, each answer, and the first error and its place, is as the document says. -/
import Derived.Test.YtdamiipeijnpnaaBRef04
import Derived.Test.YtdamiipeijnpnaaQx16
import Derived.Test.YtdamiipeijnpnaaBOpen
import Derived.OpenShut
namespace Go.Proofs.Ytdamiipeijnpnaa.Walk
set_option linter.unusedVariables false
set_option linter.unusedSimpArgs false
open Go.RowKit Go.Proofs.Ytdamiipeijnpnaa.Q Go.Proofs.YtdamiipeijnpnaaW.PrintWords Go.Proofs.YtdamiipeijnpnaaW.PrintLast Go.Proofs.YtdamiipeijnpnaaW.PrintMore Go.Proofs.Ytdamiipeijnpnaa.Opn

theorem takes_loop {l : List S29} (hl : l.length ≤ 30) {b : List Int} (hB : BB b) : ∀ (d i k : Nat), i + d = l.length → 2 * d + 12 ≤ k → ∀ a fa fe N S Y, Rd b a fa fe → usufructlaw04_FieldTakes.l0 k l (i : Int) b a fa fe (strOfNums b) a fe fa N S Y = some true
  | 0, i, k, hi, hk, a, fa, fe, N, S, Y, h => by
    obtain ⟨k, rfl⟩ : ∃ j, k = j + 1 := ⟨k - 1, by omega⟩
    rw [usufructlaw04_FieldTakes.l0, if_neg (by omega)]
  | d + 1, i, k, hi, hk, a, fa, fe, N, S, Y, h => by
    obtain ⟨k, rfl⟩ : ∃ j, k = j + 10 + 1 := ⟨k - 11, by omega⟩
    have e1 : wrap64 ((i : Int) + 1) = ((i + 1 : Nat) : Int) := by unfold wrap64; omega
    have ih : ∀ a fa fe N S Y, Rd b a fa fe → usufructlaw04_FieldTakes.j2 (k + 10) l (i : Int) b a fa fe (strOfNums b) a fe fa N S Y = some true := fun a fa fe N S Y h => by
      rw [show k + 10 = (k + 9) + 1 from rfl, usufructlaw04_FieldTakes.j2, err_eq, Option.bind_some]
      dsimp only
      rw [if_pos rfl, if_pos rfl, e1]
      exact takes_loop hl hB d (i + 1) (k + 9) (by omega) (by omega) a fa fe N S Y h
    rw [usufructlaw04_FieldTakes.l0, if_pos (by omega), if_pos (by omega)]
    generalize rd_T29 l (i : Int) = x
    split
    · obtain ⟨r, a', f', e', hn, hr, ht, _⟩ := take_eq hB h k N S Y
      rw [ht, Option.bind_some, hn, Option.bind_some]
      dsimp only
      rw [if_pos rfl]
      exact ih _ _ _ _ _ _ hr
    · split
      · obtain ⟨r, a', f', e', hn, hr, ht⟩ := text_eq hB h k N S Y x.f1
        rw [ht, Option.bind_some, hn, Option.bind_some]
        dsimp only
        rw [if_pos rfl]
        exact ih _ _ _ _ _ _ hr
      · split
        · obtain ⟨r, a', f', e', hn, hr, ht⟩ := flag_eq hB h N S Y
          rw [ht, Option.bind_some, hn, Option.bind_some]
          dsimp only
          rw [if_neg (by cases r <;> decide)]
          exact ih _ _ _ _ _ _ hr
        · split
          · obtain ⟨r, a', f', e', hn, hr, ht⟩ := count_eq hB h k N S Y x.f1 x.f2
            rw [ht, Option.bind_some, hn, Option.bind_some]
            dsimp only
            rw [if_pos rfl]
            exact ih _ _ _ _ _ _ hr
          · split
            · obtain ⟨r, a', f', e', hn, hr, ht, hd⟩ := end_eq h (k + 9) N S Y
              rw [ht, Option.bind_some, show k + 10 = (k + 9) + 1 from rfl, hn, Option.bind_some]
              dsimp only
              rw [hd, if_neg (by by_cases he : e' = 0 <;> simp [he])]
              exact ih _ _ _ _ _ _ hr
            · exact ih _ _ _ _ _ _ h

theorem FieldTakes.pure (b : List Int) (hB : BB b) (l : List S29) : ∃ k, usufructlaw04_FieldTakes.f k b l = some true := by
  refine ⟨80 + 1, ?_⟩
  unfold usufructlaw04_FieldTakes.f
  rw [show usufructlaw04_awake.f = some true from rfl, Option.bind_some, if_pos rfl]
  by_cases h : (b.length : Int) > 200
  · rw [if_pos h, usufructlaw04_FieldTakes.j0, if_pos rfl]
  · rw [if_neg h, usufructlaw04_FieldTakes.j0]
    by_cases h2 : (l.length : Int) > 30
    · rw [if_pos (decide_eq_true h2)]
    · rw [if_neg (by rw [decide_eq_false h2]; decide)]
      unfold field_NewReader.f
      rw [if_pos (by omega), Option.bind_some]
      exact takes_loop (by omega) hB l.length 0 80 (by omega) (by omega) 0 0 0 _ _ _ ⟨by omega, by omega, by omega, fun _ => rfl⟩
theorem FieldTakes.walk (w : World) (A0 : Option Addr) (c0 : Nat) (l0 : List Int) (A1 : Option Addr) (c1 : Nat) (l1 : List S29)
    (hr0 : Kd.C (Kd.int .u8) w A0 l0.length l0) (hc0 : l0.length ≤ c0) (hm0 : c0 ≤ maxLen) (ok0 : ∀ x ∈ l0, (fun x => (Lit.int .u8 x).wf = true) x) (hr1 : Kd.C k29 w A1 l1.length l1) (hc1 : l1.length ≤ c1) (hm1 : c1 ≤ maxLen) (ok1 : ∀ x ∈ l1, (fun s : S29 => (fun x : Int × Int × Int × ByteArray × Bool => (fun x => (Lit.int .i64 x).wf = true) x.1 ∧ (fun x => (Lit.int .i64 x).wf = true) x.2.1 ∧ (fun x => (Lit.int .i64 x).wf = true) x.2.2.1 ∧ (fun x => x.size ≤ maxLen) x.2.2.2.1 ∧ (fun _ => True) x.2.2.2.2) (s.f0, (s.f1, (s.f2, (s.f3, s.f4))))) x) :
    Calls Try.prog 4 #[.slice A0 l0.length c0, .slice A1 l1.length c1] w fun e w' => e = .returned (.bool true) ∧ Below w.heap.size w w' := by
  obtain ⟨k, h⟩ := FieldTakes.pure l0 (fun x hx => by have := bounds_u8 (ok0 x hx); omega) l1
  exact usufructlaw04_FieldTakes.calls k A0 c0 l0 A1 c1 l1 true w hr0 hc0 hr1 hc1 h
end Go.Proofs.Ytdamiipeijnpnaa.Walk
