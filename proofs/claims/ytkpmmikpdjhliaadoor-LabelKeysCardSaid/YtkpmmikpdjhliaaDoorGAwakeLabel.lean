/- Layer 2: what the document tells first holds: a walk. -/
import Derived.Test.YtkpmmikpdjhliaaDoorQx10
import Derived.Test.YtkpmmikpdjhliaaDoorGLabelMask
namespace Go.Proofs.YtkpmmikpdjhliaaDoor.Q
open Go.RowKit Go.Proofs.YtkpmmikpdjhliaaDoorW.PrintWords Go.Proofs.YtkpmmikpdjhliaaDoorW.PrintLast Go.Proofs.YtkpmmikpdjhliaaDoorW.PrintMore
set_option linter.unusedVariables false
set_option linter.unusedSimpArgs false

theorem aw_cut : label_Cut.f 20 ⟨#[112, 97, 121, 47, 50]⟩ = some ([], false) := by decide +kernel
theorem aw_key : label_Key.f 20 [⟨#[112, 97, 121]⟩, ⟨#[99, 97, 114, 100]⟩] = some (⟨#[112, 97, 121, 47, 99, 97, 114, 100]⟩, true) := by decide +kernel
theorem aw_mask : label_Mask.f ⟨#[97, 32, 98]⟩ = some ⟨#[97, 95, 98]⟩ := by decide +kernel
theorem aw_good : label_Good.f ⟨#[195, 169, 49]⟩ = some true := by decide +kernel
theorem C_of_strs {W : World} {b : Nat} {t : TypeId} {fr : Nat × Nat} (xs : List ByteArray) (h : W.heap[b]? = some (.cells (xs.map Value.string).toArray t fr)) (hl : xs.length ≤ 9223372036854775807) :
    Kd.C Kd.string W (some ⟨b, 0, none⟩) xs.length xs := by
  refine ⟨rfl, hl, fun _ => ⟨_, rfl, fun j p hj => ⟨[.string p], rfl, rfl, fun i u hu => ?_⟩⟩⟩
  have hi : i = 0 := by
    have := (List.getElem?_eq_some_iff.1 hu).1
    simp at this
    exact this
  subst hi
  simp at hu
  subst hu
  show W.cell? ((⟨b, 0, none⟩ : Addr).add (j * 1 + 0)) = _
  rw [Nat.mul_one, Nat.add_zero, Addr.add_lit, Nat.zero_add, cell_of_row W b j _ t fr h]
  simp [hj]
def usufructlaw02_awake.f : Option (Bool) := some true

set_option maxHeartbeats 400000 in
set_option maxRecDepth 100000 in
theorem usufructlaw02_awake.calls (r : Bool) (w : World) (hTab_ : Tabs_ w) (h : usufructlaw02_awake.f = some r) :
    Calls Tryd.prog 7 #[] w fun e w' => e = .returned (.bool r) ∧ Below w.heap.size w w' := by
  obtain rfl := Option.some.inj h
  clear h
  have HT := Aside0.mk hTab_
  clear hTab_
  go_enter Tryd.func7, Tryd.ntmps7
  go_wp2_with fail
  refine (label_Cut.calls 20 _ [] false _ HT.out aw_cut).mono ?_
  rintro e w1 ⟨v0, rfl, ho, hb1⟩
  have HT1 := Aside0.mk (HT.out.below hb1)
  have HB1 := Aside0.mk hb1
  clear hb1 ho
  have hC := Aside0.mk (C_of_strs (W := w1.alloc (.cells #[.string ⟨#[112, 97, 121]⟩, .string ⟨#[99, 97, 114, 100]⟩] 9)) (b := w1.heap.size) [⟨#[112, 97, 121]⟩, ⟨#[99, 97, 114, 100]⟩] (heap_alloc_new w1 _) (by simp))
  go_wp2_with fail
  refine (label_Key.calls 20 (some ⟨w1.heap.size, 0, none⟩) 2 [⟨#[112, 97, 121]⟩, ⟨#[99, 97, 114, 100]⟩] _ _ _ hC.out (by simp) (HT1.out.alloc _) aw_key).mono ?_
  rintro e w2 ⟨rfl, hb2⟩
  have hba : Below w1.heap.size w1 (w1.alloc (.cells #[.string ⟨#[112, 97, 121]⟩, .string ⟨#[99, 97, 114, 100]⟩] 9)) := below_alloc (Below.refl _ _) _
  have hb12 := hba.trans (hb2.mono hba.size)
  have HT2 := Aside0.mk (HT1.out.below hb12)
  have HB2 := Aside0.mk (HB1.out.trans (hb12.mono HB1.out.size))
  clear hb2 hba hb12 hC
  go_wp2_with fail
  refine (label_Mask.calls _ _ _ HT2.out aw_mask).mono ?_
  rintro e w3 ⟨rfl, hb3⟩
  have HT3 := Aside0.mk (HT2.out.below hb3)
  have HB3 := Aside0.mk (HB2.out.trans (hb3.mono HB2.out.size))
  clear hb3
  go_wp2_with fail
  refine (label_Good.calls _ _ _ HT3.out aw_good).mono ?_
  rintro e w4 ⟨rfl, hb4⟩
  have HB4 := Aside0.mk (HB3.out.trans (hb4.mono HB3.out.size))
  clear hb4
  go_wp2_with fail
  go_ret
  exact ⟨rfl, HB4.out⟩
end Go.Proofs.YtkpmmikpdjhliaaDoor.Q
