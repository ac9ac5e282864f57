/- However bytes come in pieces, their sum is the same, and what is sealed is opened as it was: of every row of bytes, at every place. -/
import Derived.Test.YtdbelgfkhollnaaBSeal
import Derived.Test.YtdbelgfkhollnaaQx9
namespace Go.Proofs.Ytdbelgfkhollnaa.Pure
set_option linter.unusedVariables false
set_option linter.unusedSimpArgs false
open Go.RowKit Go.Proofs.Ytdbelgfkhollnaa.Q Go.Proofs.YtdbelgfkhollnaaW.PrintWords Go.Proofs.YtdbelgfkhollnaaW.PrintLast Go.Proofs.YtdbelgfkhollnaaW.PrintMore

/-- Sealed bytes are opened as they were. -/
theorem open_sealed {l : List Int} (hb : ∀ x ∈ l, IsByte x) (h3 : l.length ≤ 300) (s : BitVec 32) (hs : crc l = s) : sum_Open.f (l ++ le4 (U s)) = some (l, true) := by
  have q0 : IsByte (U s % 256) := le4_bytes (U s) _ (by simp [le4])
  have q1 : IsByte (U s / 256 % 256) := le4_bytes (U s) _ (by simp [le4])
  have q2 : IsByte (U s / 65536 % 256) := le4_bytes (U s) _ (by simp [le4])
  have q3 : IsByte (U s / 16777216 % 256) := le4_bytes (U s) _ (by simp [le4])
  unfold le4
  rw [open_eq hb q0 q1 q2 q3 (by omega), le4_dec, hs, if_pos rfl]

/-- The sum of two pieces, the second behind the first. -/
theorem more_pieces {l : List Int} (hb : ∀ x ∈ l, IsByte x) (k : Nat) : sum_More.f (U (crc (l.take k))) (l.drop k) = some (U (crc l)) := by
  rw [more_U _ (fun c hc => hb c (List.mem_of_mem_drop hc))]
  have e : ~~~ (crc (l.take k)) = fold (BitVec.allOnes 32) (l.take k) := by unfold crc; rw [BitVec.not_not]
  rw [e, ← fold_append, List.take_append_drop]
  rfl

theorem SumPieces : usufructlaw03_SumPieces.Pure := by
  intro l a _ hl hw ha
  have hb := bytes_of hw
  have ha2 := bounds_u16 ha
  unfold usufructlaw03_SumPieces.f
  rw [show usufructlaw03_awake.f = some true from rfl, Option.bind_some, if_pos rfl]
  by_cases h3 : (l.length : Int) > 300
  · rw [if_pos h3]
  · rw [if_neg h3]
    obtain ⟨s, hs⟩ : ∃ s, crc l = s := ⟨_, rfl⟩
    have hseal := seal_eq hb (show l.length ≤ 100000000 by omega)
    rw [hs] at hseal
    have ho := open_sealed hb (show l.length ≤ 300 by omega) s hs
    generalize l ++ le4 (U s) = m at *
    have e1 : wrap64 ((l.length : Int) + 1) = ((l.length + 1 : Nat) : Int) := by unfold wrap64; omega
    have hmod : Int.tmod (wrap64 a) ((l.length + 1 : Nat) : Int) = (((a.toNat % (l.length + 1)) : Nat) : Int) := by
      obtain ⟨n, rfl⟩ := Int.eq_ofNat_of_zero_le ha2.1
      have e : wrap64 (n : Int) = n := by unfold wrap64; omega
      rw [e, Int.tmod_eq_emod_of_nonneg (by omega), Int.toNat_natCast, Int.natCast_emod]
    have hk : a.toNat % (l.length + 1) < l.length + 1 := Nat.mod_lt _ (by omega)
    rw [e1, hmod]
    generalize a.toNat % (l.length + 1) = k at *
    have hm := more_pieces hb k
    rw [hs] at hm
    have ht := of_eq (fun c hc => hb c (List.mem_of_mem_take hc) : ∀ c ∈ l.take k, IsByte c)
    have hf := of_eq hb
    rw [hs] at hf
    have hfit := fits_eq hb (U s)
    rw [hs] at hfit
    generalize crc (l.take k) = x at *
    rw [if_neg (by omega), hseal, Option.bind_some, ho, Option.bind_some, if_pos (by omega), if_pos (by omega), Int.toNat_natCast, ht, Option.bind_some, hm, Option.bind_some, hf, Option.bind_some, if_pos rfl, if_pos rfl, if_pos rfl, Option.bind_some, hfit, Option.bind_some, beq_self_eq_true]
end Go.Proofs.Ytdbelgfkhollnaa.Pure
