/- Layer 6: what the document tells first holds: a walk. -/
import Derived.Test.YtdamiipeijnpnaaQx20
import Derived.Test.YtdamiipeijnpnaaQx23
import Derived.Test.YtdamiipeijnpnaaQx22
import Derived.Lib.SlBytesConst
namespace Go.Proofs.Ytdamiipeijnpnaa.Q
open Go.RowKit Go.Proofs.YtdamiipeijnpnaaW.PrintWords Go.Proofs.YtdamiipeijnpnaaW.PrintLast Go.Proofs.YtdamiipeijnpnaaW.PrintMore
set_option linter.unusedVariables false
set_option linter.unusedSimpArgs false

/-- A block of whole numbers, known whole, reads as a row. -/
theorem C_of_block {k : IntKind} {W : World} {b : Nat} {t : TypeId} {fr : Nat × Nat} (xs : List Int) (h : W.heap[b]? = some (.cells (xs.map (Value.int k)).toArray t fr)) (hl : xs.length ≤ 9223372036854775807) :
    Kd.C (Kd.int k) W (some ⟨b, 0, none⟩) xs.length xs := by
  refine ⟨rfl, hl, fun _ => ⟨_, rfl, fun j p hj => ⟨[.int k p], rfl, rfl, fun i u hu => ?_⟩⟩⟩
  have hi : i = 0 := by
    have := (List.getElem?_eq_some_iff.1 hu).1
    simp at this
    exact this
  subst hi
  simp at hu
  subst hu
  show W.cell? ((⟨b, 0, none⟩ : Addr).add (j * 1 + 0)) = _
  rw [Nat.mul_one, Nat.add_zero, Addr.add_lit, Nat.zero_add, cell_of_row W b j _ t fr h]
  simp [hj]
theorem of_some (l : List Int) : ∃ s, sum_Of.f l = some s := by
  unfold sum_Of.f sum_More.f
  exact ⟨_, rfl⟩
theorem put_len (l : List Int) (h : l.length ≤ 65536) : ∃ b, record_Put.f l = some (b, 0) ∧ b.length = 13 + l.length := by
  unfold record_Put.f record_four.f
  rw [if_neg (by omega), Option.bind_some]
  obtain ⟨s, hs⟩ := of_some [((l.length : Int) % 4294967296) / 16777216 % 256, ((l.length : Int) % 4294967296) / 65536 % 256, ((l.length : Int) % 4294967296) / 256 % 256, ((l.length : Int) % 4294967296) % 256]
  obtain ⟨u, hu⟩ := of_some l
  rw [hs, Option.bind_some, Option.bind_some, hu, Option.bind_some, Option.bind_some]
  unfold slices_Concat_byte_byte.f
  rw [if_pos (by simp only [List.flatten_cons, List.flatten_nil, List.length_append, List.length_cons, List.length_nil]; omega), Option.bind_some]
  refine ⟨_, rfl, ?_⟩
  simp only [List.flatten_cons, List.flatten_nil, List.length_append, List.length_cons, List.length_nil]
  omega
theorem put_big (l : List Int) (h : 65536 < l.length) : record_Put.f l = some ([], 4) := by
  unfold record_Put.f
  rw [if_pos (by omega)]
theorem size_eq (n : Int) : record_Size.f n = some (if n < 0 then 0 else if n > 65536 then 0 else 13 + n) := by
  unfold record_Size.f
  by_cases h : n < 0
  · rw [if_pos h, if_pos h]
  · rw [if_neg h, if_neg h]
    by_cases h2 : n > 65536
    · rw [if_pos h2, if_pos h2]
    · rw [if_neg h2, if_neg h2]
      congr 1
      unfold wrap64
      omega
theorem get_nil (k : Nat) : record_Get.f (k + 2) [] 0 = some ([], 0, 2) := by
  unfold record_Get.f
  rw [if_neg (by decide), show decide ((0 : Int) > ((([] : List Int).length : Nat) : Int)) = false from rfl, record_Get.j0, if_neg (by decide), if_pos (by decide), if_pos (by decide), show (([] : List Int).drop (0 : Int).toNat) = [] from rfl]
  have h2 : record_length.f (k + 1) [] = some (0, 2) := by
    unfold record_length.f
    rw [if_neg (by decide), record_length.j0, if_neg (by decide), if_pos (by decide)]
  rw [h2, Option.bind_some]
  rfl
def usufructlaw06_awake.f : Option (Bool) := some true

set_option maxHeartbeats 400000 in
set_option maxRecDepth 100000 in
theorem usufructlaw06_awake.calls (r : Bool) (w : World) (h : usufructlaw06_awake.f = some r) :
    Calls Try.prog 28 #[] w fun e w' => e = .returned (.bool r) ∧ Below w.heap.size w w' := by
  obtain rfl := Option.some.inj h
  clear h
  have kc := fun (w : World) (C : Array Value) (n c : Nat) => Lib.run_convert_bytes_const (P := Try.prog) w 25 5 C n c Try.underlying25 Try.underlying5
  have hG := Aside0.mk (get_nil 0)
  go_enter Try.func28, Try.ntmps28
  go_wp2_with fail
  refine (record_Get.calls (0 + 2) none 0 [] 0 _ _ _ _ (Kd.C_nil _ _) (Nat.le_refl _) hG.out).mono ?_
  rintro e w1 ⟨v1, rfl, _, hb1⟩
  have HB1 := Aside0.mk hb1
  clear hb1 hG
  obtain ⟨b, hb, hl⟩ := put_len [97] (by decide)
  have hb0 := Aside0.mk hb
  have hl0 := Aside0.mk hl
  clear hb hl
  have hC := Aside0.mk (C_of_block (k := .u8) (W := w1.alloc (.cells #[.int .u8 97] 5 (1, 2))) (b := w1.heap.size) [97] (heap_alloc_new w1 _) (by simp))
  go_wp2_with fail
  refine (record_Put.calls (fun k_ => k_ < (w1.alloc (.cells #[.int .u8 97] 5 (1, 2))).heap.size) (some ⟨w1.heap.size, 0, none⟩) 1 [97] _ _ _ (Kd.V_mk (by simp) (Kd.C_F (Kd.heap_int .u8) hC.out)) hb0.out).mono ?_
  rintro e w2 ⟨v2, rfl, hR, hb2⟩
  obtain ⟨A2, c2, e2⟩ := Kd.R_slice hR
  subst e2
  have HB2 := Aside0.mk (HB1.out.trans (((below_alloc (Below.refl _ _) _ : Below w1.heap.size w1 (w1.alloc (.cells #[.int .u8 97] 5 (1, 2)))).trans (hb2.mono (by simp))).mono HB1.out.size))
  have hS := Aside0.mk (show record_Size.f 1 = some 14 from by rw [size_eq]; rfl)
  have hlen : ((b.length : Int) == 14) = true := by rw [hl0.out]; rfl
  clear hb2 hC hR hl0 hb0
  go_wp2_with fail
  refine (record_Size.calls 1 _ _ hS.out).mono ?_
  rintro e w3 ⟨rfl, nd, rfl⟩
  go_wp2_with fail
  go_ret
  exact ⟨rfl, pw_below_drewN HB2.out _⟩
end Go.Proofs.Ytdamiipeijnpnaa.Q
