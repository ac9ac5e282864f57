/- The sum of any bytes, what is sealed, and what is opened, is as the document says. -/
import Derived.Test.YtdbelgfkhollnaaBSumRef
import Derived.Test.YtdbelgfkhollnaaQx8
namespace Go.Proofs.Ytdbelgfkhollnaa.Pure
set_option linter.unusedVariables false
set_option linter.unusedSimpArgs false
open Go.RowKit Go.Proofs.Ytdbelgfkhollnaa.Q Go.Proofs.YtdbelgfkhollnaaW.PrintWords Go.Proofs.YtdbelgfkhollnaaW.PrintLast Go.Proofs.YtdbelgfkhollnaaW.PrintMore

theorem ref_open_short {l : List Int} (h : l.length < 4) (k : Nat) : usufructref03_Open.f k l = some ([], false) := by
  unfold usufructref03_Open.f
  rw [if_pos (by omega)]
theorem open_short {l : List Int} (h : l.length < 4) : sum_Open.f l = some ([], false) := by
  unfold sum_Open.f
  rw [if_pos (by unfold wrap64; omega)]
theorem ref_open {m q : List Int} (hb : ∀ c ∈ m, IsByte c) (hq : ∀ c ∈ q, IsByte c) (h4 : q.length = 4) (hl : m.length ≤ 1000) {k : Nat} (hk : 5 + 10 * m.length ≤ k) :
    usufructref03_Open.f k (m ++ q) = some (m, (strOfNums (m ++ le4 (U (crc m)))).toList == (strOfNums (m ++ q)).toList) := by
  have hlen : (m ++ q).length = m.length + 4 := by simp [h4]
  have e0 : wrap64 (((m ++ q).length : Int) - 4) = (m.length : Int) := by rw [hlen]; unfold wrap64; omega
  have t : (m ++ q).take m.length = m := by simp
  have hs := ref_seal hb (by omega) hk
  unfold usufructref03_Open.f
  rw [e0, hlen, if_neg (by omega), if_pos (by omega), if_pos (by omega), Int.toNat_natCast, t, hs, Option.bind_some, Option.bind_some, if_pos (by simp only [List.length_nil]; omega), List.nil_append]
/-- What goes on behind both openings. -/
theorem tells_end {l : List Int} (hb : ∀ c ∈ l, IsByte c) (hl : l.length ≤ 1000) {k : Nat} (hk : 6 + 10 * l.length ≤ k) (s : Int) (x : List Int) (b : Bool) :
    usufructlaw03_SumTells.j0 k l s x b x b = some true := by
  obtain ⟨k, rfl⟩ : ∃ j, k = j + 1 := ⟨k - 1, by omega⟩
  have h1 := of_eq hb
  have h2 := ref_of hb (by omega) (show 1 + 10 * l.length ≤ k by omega)
  have h3 := seal_eq hb (show l.length ≤ 100000000 by omega)
  have h4 := ref_seal hb (show l.length ≤ 100000000 by omega) (show 5 + 10 * l.length ≤ k by omega)
  have h5 := fits_eq hb s
  generalize U (crc l) = u at *
  generalize l ++ le4 u = z at *
  rw [usufructlaw03_SumTells.j0, h1, Option.bind_some, h2, Option.bind_some, if_pos rfl, h3, Option.bind_some, h4, Option.bind_some, if_pos rfl, if_pos rfl, if_pos (beq_self_eq_true b), h5, Option.bind_some, Option.bind_some, beq_self_eq_true]

theorem SumTells : usufructlaw03_SumTells.Pure := by
  intro l s _ hl hw hs
  have hb := bytes_of hw
  refine ⟨4000, ?_⟩
  unfold usufructlaw03_SumTells.f
  rw [show usufructlaw03_awake.f = some true from rfl, Option.bind_some, if_pos rfl]
  by_cases h3 : (l.length : Int) > 300
  · rw [if_pos h3]
  · rw [if_neg h3]
    have he := fun x b => tells_end hb (show l.length ≤ 1000 by omega) (k := 4000) (by omega) s x b
    by_cases h4 : l.length < 4
    · rw [ref_open_short h4, Option.bind_some, open_short h4, Option.bind_some, if_neg (by decide)]
      exact he [] false
    · obtain ⟨m, q, hq, rfl⟩ : ∃ m q, q.length = 4 ∧ m ++ q = l := ⟨l.take (l.length - 4), l.drop (l.length - 4), by rw [List.length_drop]; omega, List.take_append_drop _ _⟩
      have hbm : ∀ c ∈ m, IsByte c := fun c hc => hb c (by simp [hc])
      have hbq : ∀ c ∈ q, IsByte c := fun c hc => hb c (by simp [hc])
      have hlen : (m ++ q).length = m.length + 4 := by simp [hq]
      have ho := ref_open hbm hbq hq (show m.length ≤ 1000 by omega) (k := 4000) (by omega)
      rw [ho, Option.bind_some]
      obtain ⟨a, b, c, d, rfl⟩ : ∃ a b c d, q = [a, b, c, d] := by
        match q, hq with
        | [a, b, c, d], _ => exact ⟨a, b, c, d, rfl⟩
      have ba := hbq a (by simp)
      have bb := hbq b (by simp)
      have bc := hbq c (by simp)
      have bd := hbq d (by simp)
      rw [open_eq hbm ba bb bc bd (by omega), Option.bind_some]
      have hle := le4_bytes (U (crc m))
      have hdec := le4_dec (crc m)
      have hlo := U_lo (crc m)
      have hhi := U_hi (crc m)
      clear ho
      generalize U (crc m) = u at *
      by_cases hu : u = a + 256 * b + 65536 * c + 16777216 * d
      · have e : le4 u = [a, b, c, d] := by
          have := ba.1; have := ba.2; have := bb.1; have := bb.2; have := bc.1; have := bc.2; have := bd.1; have := bd.2
          unfold le4
          rw [show u % 256 = a by omega, show u / 256 % 256 = b by omega, show u / 65536 % 256 = c by omega, show u / 16777216 % 256 = d by omega]
        rw [if_pos hu, e, beq_self_eq_true, if_pos rfl]
        exact he m true
      · have e : ((strOfNums (m ++ le4 u)).toList == (strOfNums (m ++ [a, b, c, d])).toList) = false := by
          rw [beq_eq_false_iff_ne]
          intro h
          have h1 := str_inj (fun x hx => by
            rcases List.mem_append.1 hx with h | h
            · exact hbm x h
            · exact hle x h) hb h
          have h2 := List.append_cancel_left h1
          unfold le4 at h2
          simp only [List.cons.injEq, and_true] at h2
          obtain ⟨q0, q1, q2, q3⟩ := h2
          exact hu (by rw [← q0, ← q1, ← q2, ← q3]; exact hdec.symm)
        rw [if_neg hu, e, if_neg (by simp)]
        exact he [] false
end Go.Proofs.Ytdbelgfkhollnaa.Pure
