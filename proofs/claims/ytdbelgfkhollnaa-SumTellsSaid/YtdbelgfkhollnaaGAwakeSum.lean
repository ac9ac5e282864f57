/- Layer 3: what the document tells first holds: a walk. -/
import Derived.Test.YtdbelgfkhollnaaGMore
import Derived.Test.YtdbelgfkhollnaaQx1
import Derived.Lib.SlBytesConst
namespace Go.Proofs.Ytdbelgfkhollnaa.Q
open Go.RowKit Go.Proofs.YtdbelgfkhollnaaW.PrintWords Go.Proofs.YtdbelgfkhollnaaW.PrintLast Go.Proofs.YtdbelgfkhollnaaW.PrintMore
set_option linter.unusedVariables false
set_option linter.unusedSimpArgs false

/-- A block of whole numbers, known whole, reads as a row. -/
theorem C_of_block {k : IntKind} {W : World} {b : Nat} {t : TypeId} {fr : Nat × Nat} (xs : List Int) (h : W.heap[b]? = some (.cells (xs.map (Value.int k)).toArray t fr)) (hl : xs.length ≤ 9223372036854775807) :
    Kd.C (Kd.int k) W (some ⟨b, 0, none⟩) xs.length xs := by
  refine ⟨rfl, hl, fun _ => ⟨_, rfl, fun j p hj => ⟨[.int k p], rfl, rfl, fun i u hu => ?_⟩⟩⟩
  have hi : i = 0 := by
    have := (List.getElem?_eq_some_iff.1 hu).1
    simp at this
    exact this
  subst hi
  simp at hu
  subst hu
  show W.cell? ((⟨b, 0, none⟩ : Addr).add (j * 1 + 0)) = _
  rw [Nat.mul_one, Nat.add_zero, Addr.add_lit, Nat.zero_add, cell_of_row W b j _ t fr h]
  simp [hj]
theorem crc_awake : sum_Of.f [49, 50, 51, 52, 53, 54, 55, 56, 57] = some 3421780262 := by decide +kernel
theorem crc_none : sum_Of.f [] = some 0 := by decide +kernel
def usufructlaw03_awake.f : Option (Bool) := some true

set_option maxHeartbeats 400000 in
set_option maxRecDepth 100000 in
theorem usufructlaw03_awake.calls (r : Bool) (w : World) (h : usufructlaw03_awake.f = some r) :
    Calls Try.prog 7 #[] w fun e w' => e = .returned (.bool r) ∧ Below w.heap.size w w' := by
  obtain rfl := Option.some.inj h
  clear h
  have kc := fun (w : World) (C : Array Value) (n c : Nat) => Lib.run_convert_bytes_const (P := Try.prog) w 22 5 C n c Try.underlying22 Try.underlying5
  have hC := Aside0.mk (C_of_block (k := .u8) (W := w.alloc (.cells #[.int .u8 49, .int .u8 50, .int .u8 51, .int .u8 52, .int .u8 53, .int .u8 54, .int .u8 55, .int .u8 56, .int .u8 57] 5 (9, 10))) (b := w.heap.size) [49, 50, 51, 52, 53, 54, 55, 56, 57] (heap_alloc_new w _) (by simp))
  go_enter Try.func7, Try.ntmps7
  go_wp2_with fail
  refine (sum_Of.calls (some ⟨w.heap.size, 0, none⟩) 9 [49, 50, 51, 52, 53, 54, 55, 56, 57] _ _ hC.out (by simp) crc_awake).mono ?_
  rintro e w1 ⟨rfl, hb1⟩
  have HB1 := Aside0.mk ((below_alloc (Below.refl _ _) _ : Below w.heap.size w (w.alloc (.cells #[.int .u8 49, .int .u8 50, .int .u8 51, .int .u8 52, .int .u8 53, .int .u8 54, .int .u8 55, .int .u8 56, .int .u8 57] 5 (9, 10)))).trans (hb1.mono (by simp)))
  clear hb1 hC
  go_wp2_with fail
  refine (sum_Of.calls none 0 [] _ _ (Kd.C_nil _ _) (Nat.le_refl _) crc_none).mono ?_
  rintro e w2 ⟨rfl, hb2⟩
  have HB2 := Aside0.mk (HB1.out.trans (hb2.mono HB1.out.size))
  clear hb2
  go_wp2_with fail
  go_ret
  exact ⟨rfl, HB2.out⟩
end Go.Proofs.Ytdbelgfkhollnaa.Q
