/- One byte that is turned turns the sum, so that nothing sealed is opened with a byte turned: of every row of bytes, at every place, for every byte. -/
import Derived.Test.YtdbelgfkhollnaaBSeal
import Derived.Test.YtdbelgfkhollnaaQx10
namespace Go.Proofs.Ytdbelgfkhollnaa.Pure
set_option linter.unusedVariables false
set_option linter.unusedSimpArgs false
open Go.RowKit Go.Proofs.Ytdbelgfkhollnaa.Q Go.Proofs.YtdbelgfkhollnaaW.PrintWords Go.Proofs.YtdbelgfkhollnaaW.PrintLast Go.Proofs.YtdbelgfkhollnaaW.PrintMore

theorem turned_head {l : List Int} {s : BitVec 32} {k : Nat} (hs : s = crc l) (hb : ∀ x ∈ l, IsByte x) (hk : k < l.length) {c : Int} (hc : IsByte c) (hne : l[k] ≠ c) :
    U (crc (l.set k c)) ≠ U s := by
  intro h
  have h1 := U_inj h
  rw [hs] at h1
  have e : l = l.take k ++ l[k] :: l.drop (k + 1) := by simp
  have e2 : l.set k c = l.take k ++ c :: l.drop (k + 1) := by rw [List.set_eq_take_append_cons_drop, if_pos hk]
  rw [e2] at h1
  conv at h1 => rhs; rw [e]
  exact hne (crc_inj_at hc (hb _ (List.getElem_mem hk)) h1).symm

/-- Where a byte is turned, what is opened is none. -/
theorem open_turned {l : List Int} (s : BitVec 32) (hs : crc l = s) (hb : ∀ x ∈ l, IsByte x) (h3 : l.length ≤ 300) {k : Nat} (hk : k < l.length + 4) {c : Int} (hc : IsByte c) (hq : rd (l ++ le4 (U s)) (k : Int) ≠ c) :
    sum_Open.f ((l ++ le4 (U s)).set k c) = some ([], false) := by
  have q0 : IsByte (U s % 256) := le4_bytes (U s) _ (by simp [le4])
  have q1 : IsByte (U s / 256 % 256) := le4_bytes (U s) _ (by simp [le4])
  have q2 : IsByte (U s / 65536 % 256) := le4_bytes (U s) _ (by simp [le4])
  have q3 : IsByte (U s / 16777216 % 256) := le4_bytes (U s) _ (by simp [le4])
  have hd := le4_dec s
  have hlen : (l ++ le4 (U s)).length = l.length + 4 := by simp [le4]
  rw [rd_at (by omega)] at hq
  by_cases hkl : k < l.length
  · have e : (l ++ le4 (U s)).set k c = l.set k c ++ [U s % 256, U s / 256 % 256, U s / 65536 % 256, U s / 16777216 % 256] := by
      rw [List.set_append_left _ _ hkl, le4]
    rw [List.getElem_append_left hkl] at hq
    rw [e, open_eq (fun x hx => by
      rcases List.mem_or_eq_of_mem_set hx with h | h
      · exact hb x h
      · rw [h]; exact hc) q0 q1 q2 q3 (by rw [List.length_set]; omega)]
    rw [if_neg (by rw [hd]; exact turned_head hs.symm hb hkl hc hq)]
  · obtain ⟨j, rfl⟩ : ∃ j, k = l.length + j := ⟨k - l.length, by omega⟩
    have e : (l ++ le4 (U s)).set (l.length + j) c = l ++ (le4 (U s)).set j c := by
      rw [List.set_append_right _ _ (by omega), Nat.add_sub_cancel_left]
    rw [List.getElem_append_right (by omega)] at hq
    simp only [Nat.add_sub_cancel_left] at hq
    rw [e]
    have hj : j = 0 ∨ j = 1 ∨ j = 2 ∨ j = 3 := by omega
    have hl : l.length ≤ 100000000 := by omega
    unfold le4 at hq ⊢
    rcases hj with rfl | rfl | rfl | rfl
    · simp only [List.getElem_cons_zero, List.getElem_cons_succ, List.set_cons_zero, List.set_cons_succ] at hq ⊢
      rw [open_eq hb hc q1 q2 q3 hl, if_neg (by rw [hs]; intro h; exact hq (by omega))]
    · simp only [List.getElem_cons_zero, List.getElem_cons_succ, List.set_cons_zero, List.set_cons_succ] at hq ⊢
      rw [open_eq hb q0 hc q2 q3 hl, if_neg (by rw [hs]; intro h; exact hq (by omega))]
    · simp only [List.getElem_cons_zero, List.getElem_cons_succ, List.set_cons_zero, List.set_cons_succ] at hq ⊢
      rw [open_eq hb q0 q1 hc q3 hl, if_neg (by rw [hs]; intro h; exact hq (by omega))]
    · simp only [List.getElem_cons_zero, List.getElem_cons_succ, List.set_cons_zero, List.set_cons_succ] at hq ⊢
      rw [open_eq hb q0 q1 q2 hc hl, if_neg (by rw [hs]; intro h; exact hq (by omega))]

theorem SumTurned : usufructlaw03_SumTurned.Pure := by
  intro l a c _ hl hw ha hcw
  have hb := bytes_of hw
  have ha2 := bounds_u16 ha
  have hc : IsByte c := bounds_u8 hcw
  unfold usufructlaw03_SumTurned.f
  rw [show usufructlaw03_awake.f = some true from rfl]
  simp only [Option.bind_some, if_true]
  by_cases h3 : (l.length : Int) > 300
  · rw [if_pos h3]
  · rw [if_neg h3]
    obtain ⟨s, hs⟩ : ∃ s, crc l = s := ⟨_, rfl⟩
    have hlen : (l ++ le4 (U s)).length = l.length + 4 := by simp [le4]
    have hseal := seal_eq hb (show l.length ≤ 100000000 by omega)
    rw [hs] at hseal
    have hk : a.toNat % (l.length + 4) < l.length + 4 := Nat.mod_lt _ (by omega)
    have ho := fun hq => open_turned s hs hb (show l.length ≤ 300 by omega) hk hc hq
    generalize l ++ le4 (U s) = m at *
    rw [hseal, Option.bind_some]
    have hmod : Int.tmod (wrap64 a) (m.length : Int) = (((a.toNat % (l.length + 4)) : Nat) : Int) := by
      obtain ⟨n, rfl⟩ := Int.eq_ofNat_of_zero_le ha2.1
      have e : wrap64 (n : Int) = n := by unfold wrap64; omega
      rw [e, hlen, Int.tmod_eq_emod_of_nonneg (by omega), Int.toNat_natCast, Int.natCast_emod]
    rw [hmod]
    generalize a.toNat % (l.length + 4) = k at *
    have e4 : wrap64 ((l.length : Int) + 4) = ((l.length + 4 : Nat) : Int) := by unfold wrap64; omega
    rw [e4, hlen, if_pos rfl, if_neg (by omega), if_pos (by omega), if_pos (by omega)]
    by_cases hq : rd m (k : Int) = c
    · rw [if_pos hq]
    · rw [if_neg hq, Int.toNat_natCast, ho hq, Option.bind_some]
      rfl
end Go.Proofs.Ytdbelgfkhollnaa.Pure
