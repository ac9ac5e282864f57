/- The breaker's functions, and the document's, in plain numbers. -/
import Derived.Test.YtiohhfjocmibdaaQx19
import Derived.Test.YtiohhfjocmibdaaQx18
import Derived.Test.YtiohhfjocmibdaaQx24
import Derived.Test.YtiohhfjocmibdaaQx23
import Derived.Test.YtiohhfjocmibdaaQx22
import Derived.Test.YtiohhfjocmibdaaQx24
import Derived.Test.YtiohhfjocmibdaaQx25
import Derived.Test.YtiohhfjocmibdaaQx18
import Derived.Test.YtiohhfjocmibdaaBTickRef
import Derived.KernelRfl
namespace Go.Proofs.Ytiohhfjocmibdaa.Q
set_option linter.unusedVariables false
set_option linter.unusedSimpArgs false
open Go.RowKit Go.Proofs.YtiohhfjocmibdaaW.PrintWords Go.Proofs.YtiohhfjocmibdaaW.PrintLast Go.Proofs.YtiohhfjocmibdaaW.PrintMore

theorem tick_Due.eq (now u : Int) : tick_Due.f now u = some (decide (tof u ≤ tof now)) := by
  unfold tick_Due.f
  rw [tick_Of.eq, Option.bind_some, tick_Of.eq, Option.bind_some]

/-- A breaker's state at a tick: 0 closed, 1 open, 2 half-open. -/
def st3 (kept u now : Int) : Int := if kept = 0 then 0 else if tof u ≤ tof now then 2 else 1
/-- May something go. -/
def may3 (p kept u o now : Int) : Bool := if st3 kept u now = 0 then true else if st3 kept u now = 2 then decide (o < p) else false
def out3 (p kept u o now : Int) : Int := if may3 p kept u o now = true then (if st3 kept u now = 2 then wrap64 (o + 1) else o) else o

theorem breaker_State.eq (t c p kept f u o now : Int) : breaker_Breaker_State.f t c p kept f u o now = some (st3 kept u now, t, c, p, kept, f, u, o) := by
  unfold breaker_Breaker_State.f st3
  rw [tick_Due.eq, Option.bind_some]
  by_cases h : kept = 0
  · rw [if_pos h, if_pos h]
  · rw [if_neg h, if_neg h]
    by_cases h2 : tof u ≤ tof now
    · rw [if_pos h2, if_pos (decide_eq_true h2)]
    · rw [if_neg h2, if_neg (by rw [decide_eq_false h2]; decide)]
theorem breaker_May.eq (t c p kept f u o now : Int) : breaker_Breaker_May.f t c p kept f u o now = some (may3 p kept u o now, t, c, p, kept, f, u, o) := by
  unfold breaker_Breaker_May.f may3
  rw [breaker_State.eq, Option.bind_some]
  dsimp only
  split
  · rfl
  · split <;> rfl
theorem breaker_Send.eq (t c p kept f u o now : Int) : breaker_Breaker_Send.f t c p kept f u o now = some (may3 p kept u o now, t, c, p, kept, f, u, out3 p kept u o now) := by
  unfold breaker_Breaker_Send.f out3
  rw [breaker_May.eq, Option.bind_some]
  dsimp only
  rw [breaker_State.eq, Option.bind_some]
  dsimp only
  by_cases h : may3 p kept u o now = true
  · rw [if_pos h, if_pos h, h]
    split <;> rfl
  · rw [if_neg h, if_neg h]
    rw [Bool.eq_false_iff.mpr h]
/-- What is over: its state, its failures, until when, how many probes are out. -/
def done3 (t c kept f u o now : Int) (b : Bool) : Int × Int × Int × Int :=
  if st3 kept u now = 1 then (kept, f, u, o) else if b = true then (0, 0, u, 0) else if st3 kept u now = 2 then (1, 0, sat (tof now + tof c), 0)
  else if wrap64 (f + 1) ≥ t then (1, 0, sat (tof now + tof c), 0) else (kept, wrap64 (f + 1), u, o)
theorem breaker_Done.eq (t c p kept f u o now : Int) (b : Bool) :
    breaker_Breaker_Done.f t c p kept f u o now b = some (t, c, p, (done3 t c kept f u o now b).1, (done3 t c kept f u o now b).2.1, (done3 t c kept f u o now b).2.2.1, (done3 t c kept f u o now b).2.2.2) := by
  unfold breaker_Breaker_Done.f done3
  rw [breaker_State.eq, Option.bind_some]
  dsimp only
  unfold breaker_Breaker_closes.f breaker_Breaker_trips.f
  rw [tick_Add.eq, Option.bind_some, Option.bind_some, Option.bind_some]
  by_cases h1 : st3 kept u now = 1
  · rw [if_pos h1, if_pos h1]
  · rw [if_neg h1, if_neg h1]
    by_cases h2 : b = true
    · rw [if_pos h2, if_pos h2]
    · rw [if_neg h2, if_neg h2]
      by_cases h3 : st3 kept u now = 2
      · rw [if_pos h3, if_pos h3]
      · rw [if_neg h3, if_neg h3]
        by_cases h4 : wrap64 (f + 1) ≥ t
        · rw [if_pos h4, if_pos h4]
        · rw [if_neg h4, if_neg h4]
def lost3 (kept u o now : Int) : Int := if st3 kept u now = 2 then mx (wrap64 (o - 1)) 0 else o
theorem breaker_Lost.eq (t c p kept f u o now : Int) : breaker_Breaker_Lost.f t c p kept f u o now = some (t, c, p, kept, f, u, lost3 kept u o now) := by
  unfold breaker_Breaker_Lost.f lost3
  rw [breaker_State.eq, Option.bind_some]
  dsimp only
  split <;> rfl

/-! ### the document's -/
theorem kind_eq {kept u : Int} (h0 : 0 ≤ u) (h1 : u ≤ MT) (f o now : Int) : usufructref10_Kind.f (decide (kept ≠ 0)) f u o now = some (st3 kept u now) := by
  unfold usufructref10_Kind.f st3
  rw [usufructref01_Of.eq, Option.bind_some, tof_id h0 h1]
  by_cases h : kept = 0
  · rw [if_neg (by simp [h]), if_pos h]
  · rw [if_pos (decide_eq_true h), if_neg h]
    by_cases h2 : tof now < u
    · rw [if_pos h2, if_neg (by omega)]
    · rw [if_neg h2, if_pos (by omega)]
theorem refmay_eq {kept u : Int} (h0 : 0 ≤ u) (h1 : u ≤ MT) (f o p now : Int) : usufructref10_May.f (decide (kept ≠ 0)) f u o p now = some (may3 p kept u o now) := by
  unfold usufructref10_May.f may3
  rw [kind_eq h0 h1, Option.bind_some]
  split
  · rfl
  · split <;> rfl
theorem refsend_eq {kept u : Int} (h0 : 0 ≤ u) (h1 : u ≤ MT) (f o p now : Int) : usufructref10_Send.f (decide (kept ≠ 0)) f u o p now = some (decide (kept ≠ 0), f, u, out3 p kept u o now, may3 p kept u o now) := by
  unfold usufructref10_Send.f out3
  rw [refmay_eq h0 h1, Option.bind_some, kind_eq h0 h1, Option.bind_some]
  by_cases h : may3 p kept u o now = true
  · rw [if_pos h, if_pos h, h]
    split <;> rfl
  · rw [if_neg h, if_neg h]
    rw [Bool.eq_false_iff.mpr h]
theorem refdone_eq {kept u : Int} (h0 : 0 ≤ u) (h1 : u ≤ MT) (f o t c now : Int) (b : Bool) :
    usufructref10_Done.f (decide (kept ≠ 0)) f u o t c now b = some (decide ((done3 t c kept f u o now b).1 ≠ 0), (done3 t c kept f u o now b).2.1, (done3 t c kept f u o now b).2.2.1, (done3 t c kept f u o now b).2.2.2) := by
  unfold usufructref10_Done.f done3
  rw [kind_eq h0 h1, Option.bind_some, usufructref01_Add.eq, Option.bind_some]
  by_cases h1 : st3 kept u now = 1
  · rw [if_pos h1, if_pos h1]
  · rw [if_neg h1, if_neg h1]
    by_cases h2 : b = true
    · rw [if_pos h2, if_pos h2]; rfl
    · rw [if_neg h2, if_neg h2]
      by_cases h3 : st3 kept u now = 2
      · rw [if_pos h3, if_pos h3]; rfl
      · rw [if_neg h3, if_neg h3]
        by_cases h4 : wrap64 (f + 1) ≥ t
        · rw [if_pos h4, if_pos h4]; rfl
        · rw [if_neg h4, if_neg h4]
theorem reflost_eq {kept u o : Int} (h0 : 0 ≤ u) (h1 : u ≤ MT) (ho : 0 ≤ o) (ho' : o ≤ 1000) (f now : Int) : usufructref10_Lost.f (decide (kept ≠ 0)) f u o now = some (decide (kept ≠ 0), f, u, lost3 kept u o now) := by
  unfold usufructref10_Lost.f lost3
  rw [kind_eq h0 h1, Option.bind_some]
  by_cases h : st3 kept u now = 2
  · rw [if_pos h, if_pos h]
    by_cases h2 : o > 0
    · rw [if_pos h2, w64 (by omega) (by omega)]
      have : mx (o - 1) 0 = o - 1 := by unfold mx; split <;> omega
      rw [this]
    · rw [if_neg h2, w64 (by omega) (by omega)]
      have : mx (o - 1) 0 = o := by unfold mx; split <;> omega
      rw [this]
  · rw [if_neg h, if_neg h]
/-- What holds of a breaker at all times. -/
structure Brk (p kept u o : Int) : Prop where
  u0 : 0 ≤ u
  u1 : u ≤ MT
  o0 : 0 ≤ o
  o1 : o ≤ p
  shut : kept = 0 → o = 0
theorem st3_zero (kept u now : Int) : st3 kept u now = 0 ↔ kept = 0 := by
  unfold st3
  by_cases h : kept = 0
  · rw [if_pos h]; simp [h]
  · rw [if_neg h]
    constructor
    · intro h2; split at h2 <;> omega
    · intro h2; exact absurd h2 h
theorem Brk.send {p kept u o : Int} (h : Brk p kept u o) (hp : p ≤ 1000) (now : Int) : Brk p kept u (out3 p kept u o now) := by
  obtain ⟨h0, h1, h2, h3, h4⟩ := h
  have e : out3 p kept u o now = o ∨ (out3 p kept u o now = o + 1 ∧ o < p ∧ kept ≠ 0) := by
    unfold out3
    by_cases hm : may3 p kept u o now = true
    · rw [if_pos hm]
      by_cases hs : st3 kept u now = 2
      · rw [if_pos hs, w64 (by omega) (by omega)]
        right
        unfold may3 at hm
        rw [hs, if_neg (by decide), if_pos rfl] at hm
        refine ⟨rfl, of_decide_eq_true hm, fun hk => ?_⟩
        have := (st3_zero kept u now).2 hk
        omega
      · rw [if_neg hs]; exact .inl rfl
    · rw [if_neg hm]; exact .inl rfl
  rcases e with e | ⟨e, e2, e3⟩
  · rw [e]; exact ⟨h0, h1, h2, h3, h4⟩
  · rw [e]; exact ⟨h0, h1, by omega, by omega, fun hk => absurd hk e3⟩
theorem Brk.lost {p kept u o : Int} (h : Brk p kept u o) (hp : p ≤ 1000) (now : Int) : Brk p kept u (lost3 kept u o now) := by
  obtain ⟨h0, h1, h2, h3, h4⟩ := h
  have e : 0 ≤ lost3 kept u o now ∧ lost3 kept u o now ≤ o := by
    unfold lost3
    by_cases hs : st3 kept u now = 2
    · rw [if_pos hs, w64 (by omega) (by omega)]
      unfold mx; split <;> omega
    · rw [if_neg hs]; omega
  exact ⟨h0, h1, e.1, by omega, fun hk => by have := h4 hk; omega⟩
theorem Brk.done {p kept u o : Int} (h : Brk p kept u o) (hp : 0 ≤ p) (t c f now : Int) (b : Bool) : Brk p (done3 t c kept f u o now b).1 (done3 t c kept f u o now b).2.2.1 (done3 t c kept f u o now b).2.2.2 := by
  have h0 := h.u0
  have h1 := h.u1
  have hs : 0 ≤ sat (tof now + tof c) := sat_nonneg (by have := tof_lo now; have := tof_lo c; omega)
  have hs1 : sat (tof now + tof c) ≤ MT := sat_le
  unfold done3
  split
  · exact h
  · split
    · exact ⟨h0, h1, Int.le_refl _, hp, fun _ => rfl⟩
    · split
      · exact ⟨hs, hs1, Int.le_refl _, hp, fun _ => rfl⟩
      · split
        · exact ⟨hs, hs1, Int.le_refl _, hp, fun _ => rfl⟩
        · exact h
theorem Brk.new {p : Int} (hp : 0 ≤ p) : Brk p 0 0 0 := ⟨Int.le_refl _, by unfold MT; omega, Int.le_refl _, hp, fun _ => rfl⟩
theorem awake10 : usufructlaw10_awake.f = some true := by kernel_rfl
end Go.Proofs.Ytiohhfjocmibdaa.Q
