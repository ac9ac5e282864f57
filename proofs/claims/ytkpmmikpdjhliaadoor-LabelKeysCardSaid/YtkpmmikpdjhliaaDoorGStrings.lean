/- strings.Join, Count, Split as the walks of this seat call them: out of the shelf's contracts. -/
import Derived.Test.YtkpmmikpdjhliaaDoorGTabs
namespace Go.Proofs.YtkpmmikpdjhliaaDoor.Q
open Go.RowKit Go.Proofs.YtkpmmikpdjhliaaDoorW.PrintWords Go.Proofs.YtkpmmikpdjhliaaDoorW.PrintLast Go.Proofs.YtkpmmikpdjhliaaDoorW.PrintMore
set_option linter.unusedVariables false
set_option linter.unusedSimpArgs false

def strings_Join.f (l0 : List ByteArray) (a1 : ByteArray) : Option (ByteArray) :=
  if l0.length ≤ 140737488355328 ∧ (Lib.join (l0.map (·.data.toList)) a1.data.toList).length ≤ 140737488355328 then some ⟨(Lib.join (l0.map (·.data.toList)) a1.data.toList).toArray⟩ else none
theorem strings_Join.calls (A0 : Option Addr) (c0 : Nat) (l0 : List ByteArray) (a1 : ByteArray) (r : ByteArray) (w : World) (hr0 : Kd.C Kd.string w A0 l0.length l0) (hc0 : l0.length ≤ c0) (h : strings_Join.f l0 a1 = some r) :
    Calls Tryd.prog 27 #[.slice A0 l0.length c0, .string a1] w fun e w' => e = .returned (.string r) ∧ Below w.heap.size w w' := by
  unfold strings_Join.f at h
  by_cases hl : l0.length ≤ 140737488355328 ∧ (Lib.join (l0.map (·.data.toList)) a1.data.toList).length ≤ 140737488355328
  · rw [if_pos hl] at h
    obtain rfl := Option.some.inj h
    clear h
    by_cases hn : 0 < l0.length
    · obtain ⟨ad, rfl, hcell⟩ := hr0.2.2 hn
      have hat : ∀ (j : Nat) x, l0[j]? = some x → w.cell? (ad.add j) = some (.string x) := by
        intro j x hj
        obtain ⟨c, hs, hr, hc⟩ := hcell j x hj
        obtain rfl : c = [.string x] := hr
        have := hc 0 (.string x) rfl
        rw [Nat.add_zero, show Kd.string.sz = 1 from rfl, Nat.mul_one] at this
        exact this
      obtain ⟨bk, o, sp⟩ := ad
      have h0 := hat 0 _ (List.getElem?_eq_getElem hn)
      have hsp : sp = none := by
        unfold World.cell? at h0
        cases sp with
        | none => rfl
        | some s =>
          simp only [Addr.add, if_pos] at h0
          split at h0 <;> simp at h0
      subst hsp
      refine Tryd.strings_Join bk o c0 l0 a1 w ?_ ?_ hl.1 hc0 hl.2
      · intro j x hj
        have := hat j x hj
        rwa [Addr.add_lit] at this
      · have := World.block_lt_of_cell? _ _ h0
        rwa [Addr.add_lit] at this
    · obtain rfl : l0 = [] := List.eq_nil_of_length_eq_zero (by omega)
      refine (Tryd.strings_Join_none A0 c0 a1 w).mono ?_
      rintro e w' ⟨rfl, rfl⟩
      exact ⟨rfl, Below.refl _ _⟩
  · rw [if_neg hl] at h
    cases h

def strings_Count.f (a0 a1 : ByteArray) : Option (Int) := match a1.data.toList with
  | [c] => some ((Lib.countByte a0.data.toList c : Nat) : Int)
  | _ => none
theorem strings_Count.calls (a0 a1 : ByteArray) (r : Int) (w : World) (h : strings_Count.f a0 a1 = some r) :
    Calls Tryd.prog 28 #[.string a0, .string a1] w fun e w' => e = .returned (.int .i64 r) ∧ Below w.heap.size w w' := by
  obtain ⟨⟨b⟩⟩ := a1
  unfold strings_Count.f at h
  dsimp only at h
  split at h
  · rename_i c
    obtain rfl := Option.some.inj h
    refine (Tryd.strings_Count_one a0 _ w).mono ?_
    rintro e w' ⟨rfl, rfl⟩
    exact ⟨rfl, Below.refl _ _⟩
  · cases h

def strings_Split.f (a0 a1 : ByteArray) : Option (List ByteArray) := if a0.size < 4294967281 ∧ 1 ≤ a1.size then some (Lib.splitB a1 0 (Lib.countB a0 a1) a0) else none
theorem strings_Split.calls (a0 a1 : ByteArray) (r : List ByteArray) (w : World) (hTab_ : Tabs_ w) (h : strings_Split.f a0 a1 = some r) :
    Calls Tryd.prog 29 #[.string a0, .string a1] w fun e w' => ∃ v0_ : Value, e = .returned (v0_) ∧ Kd.R Kd.string 9 w' w.heap.size (fun _ => True) v0_ r ∧ Below w.heap.size w w' := by
  unfold strings_Split.f at h
  by_cases hl : a0.size < 4294967281 ∧ 1 ≤ a1.size
  · rw [if_pos hl] at h
    obtain rfl := Option.some.inj h
    obtain ⟨m, hm⟩ := hTab_.2
    have hle := Lib.countB_le a1 hl.2 a0.size a0 (Nat.le_refl _)
    have hlen := Lib.splitB_all a1 hl.2 0 _ a0 rfl
    refine (Tryd.strings_Split a0 a1 m w hl.1 hm hl.2).mono ?_
    rintro e w' ⟨rfl, rfl⟩
    refine ⟨_, rfl, ?_, below_alloc (Below.refl _ _) _⟩
    generalize Lib.splitB a1 0 (Lib.countB a0 a1) a0 = L at hlen ⊢
    rw [← hlen]
    refine Kd.R_of_own (h1 := fun _ => rfl) ⟨by simp [encs], .inr ⟨w.heap.size, L.length, _, rfl, Nat.le_refl _, heap_alloc_new w _, Nat.le_refl _, by unfold maxLen; omega, by simp, ?_⟩⟩ (fun _ _ => trivial)
    rw [Nat.mul_one, encs, List.take_of_length_le (by simp)]
  · rw [if_neg hl] at h
    cases h
end Go.Proofs.YtkpmmikpdjhliaaDoor.Q
