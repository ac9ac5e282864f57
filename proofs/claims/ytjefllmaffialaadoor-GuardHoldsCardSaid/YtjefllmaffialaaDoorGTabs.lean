/- The two tables of Go's unicode/utf8, as the rows list them: kept by whatever leaves the old blocks alone. -/
import Derived.Test.YtjefllmaffialaaDoorQx0
import Derived.Test.YtjefllmaffialaaDoorGShelf
import Derived.Test.YtjefllmaffialaaDoorBUtf
import Derived.WalkKit
import Derived.BigCall
import Derived.Lib.OthersKept
import Derived.Laws.RangeString
import Derived.Laws.RangeAny
namespace Go.Proofs.YtjefllmaffialaaDoor.Q
open Go.RowKit Go.Proofs.YtjefllmaffialaaDoorW.PrintWords Go.Proofs.YtjefllmaffialaaDoorW.PrintLast Go.Proofs.YtjefllmaffialaaDoorW.PrintMore
set_option linter.unusedVariables false
set_option linter.unusedSimpArgs false

def Tabs_ (w : World) : Prop := Lib.Utf8Tabs (Tryd.lays196_ren.g 3) (Tryd.lays196_ren.g 4) w
theorem Tabs_.utf {w : World} (h : Tabs_ w) : Lib.Utf8Tabs (Tryd.lays196_ren.g 3) (Tryd.lays196_ren.g 4) w := h
theorem Tabs_.below {w W : World} (h : Tabs_ w) (hb : Below w.heap.size w W) : Tabs_ W := by
  refine ⟨fun c hc => ?_, fun i hi => ⟨?_, ?_⟩⟩
  · have e := h.1 c hc
    rw [hb.cell (World.block_lt_of_cell? _ _ e)]
    exact e
  · have e := (h.2 i hi).1
    rw [hb.cell (World.block_lt_of_cell? _ _ e)]
    exact e
  · have e := (h.2 i hi).2
    rw [hb.cell (World.block_lt_of_cell? _ _ e)]
    exact e
theorem Tabs_.drew {w : World} (h : Tabs_ w) : Tabs_ w.drew := h
theorem Tabs_.drewN {w : World} (h : Tabs_ w) (n : Nat) : Tabs_ (w.drewN n) := h.below (pw_below_drewN (Below.refl _ _) n)
theorem Tabs_.alloc {w : World} (h : Tabs_ w) (o : Obj) : Tabs_ (w.alloc o) := h.below ((Below.refl _ _).alloc (Nat.le_refl _) o)

/-! ### where a range over a text stands -/
theorem drop_size (s : ByteArray) : s.data.toList.length = s.size := (Lib.size_eq s).symm
theorem runes_at (s : ByteArray) (pos : Nat) (h : pos < s.size) : Utf.runes (s.data.toList.drop pos) = Utf.first (s.data.toList.drop pos) :: Utf.runes (s.data.toList.drop (pos + (Utf8.decode s pos).2)) := by
  have hne : s.data.toList.drop pos ≠ [] := by
    intro e
    have := congrArg List.length e
    rw [List.length_drop, drop_size] at this
    simp at this
    omega
  rw [Utf.runes_step _ hne, Lib.decodeL_drop, List.drop_drop]
theorem runes_end (s : ByteArray) (pos : Nat) (h : ¬ pos < s.size) : Utf.runes (s.data.toList.drop pos) = [] := by
  rw [List.drop_eq_nil_of_le (by rw [drop_size]; omega)]
  rfl
theorem first_at (s : ByteArray) (pos : Nat) : Utf.first (s.data.toList.drop pos) = if (Utf8.decode s pos).1 = 65533 ∧ (Utf8.decode s pos).2 = 1 then none else some (Utf8.decode s pos).1 := by
  have e := Lib.decodeL_drop s pos
  unfold Utf.first
  by_cases hb : Utf.Bad (s.data.toList.drop pos)
  · rw [if_pos hb]
    unfold Utf.Bad at hb
    rw [e] at hb
    rw [if_pos hb]
  · rw [if_neg hb, e]
    unfold Utf.Bad at hb
    rw [e] at hb
    rw [if_neg hb]
end Go.Proofs.YtjefllmaffialaaDoor.Q
