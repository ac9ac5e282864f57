/- The sum of bytes behind others: a walk. -/
import Derived.Test.YtdamiipeijnpnaaGSingle
import Derived.OpenShut
namespace Go.Proofs.Ytdamiipeijnpnaa.Q
open Go.RowKit Go.Proofs.YtdamiipeijnpnaaW.PrintWords Go.Proofs.YtdamiipeijnpnaaW.PrintLast Go.Proofs.YtdamiipeijnpnaaW.PrintMore
set_option linter.unusedVariables false
set_option linter.unusedSimpArgs false

/-- Where the table is asked. -/
def tabAt (s c : Int) : Int := Go.bits .xor .u8 (s % 256) c
/-- A byte's step. -/
def crcStep (s c : Int) : Int := Go.bits .xor .u32 (s / 256) (csteps 8 (tabAt s c))
def crcFold (s : Int) (l : List Int) : Int := l.foldl crcStep s
/-- The other sum: all bits turned. -/
def flip32 (s : Int) : Int := Go.bits .xor .u32 IntKind.u32.max s
def sum_More.f (a0 : Int) (l1 : List Int) : Option (Int) := some (flip32 (crcFold (flip32 a0) l1))

theorem tabAt_lo (s c : Int) : 0 ≤ tabAt s c ∧ tabAt s c < 256 := by
  have h := bounds_u8 (wf_bits .xor .u8 (s % 256) c)
  unfold tabAt
  omega
theorem tab_cell (w : World) (x : Int) (h0 : 0 ≤ x) (h1 : x < 256) : (w.alloc (.cells (tabTo 256) 97)).cell? ⟨w.heap.size, x.toNat, none⟩ = some (.int .u32 (csteps 8 x)) := by
  obtain ⟨n, rfl⟩ := Int.eq_ofNat_of_zero_le h0
  rw [cell_of_row _ _ _ (tabTo 256) 97 (0, 0) (heap_alloc_last w _)]
  unfold tabTo
  have : n < 256 := by omega
  simp [this]

set_option maxHeartbeats 400000 in
set_option maxRecDepth 100000 in
theorem sum_More.calls (a0 : Int) (A1 : Option Addr) (c1 : Nat) (l1 : List Int) (r : Int) (w : World) (hr1 : Kd.C (Kd.int .u8) w A1 l1.length l1) (hc1 : l1.length ≤ c1) (h : sum_More.f a0 l1 = some r) :
    Calls Try.prog 51 #[.int .u32 a0, .slice A1 l1.length c1] w fun e w' => e = .returned (.int .u32 r) ∧ Below w.heap.size w w' := by
  have hal := zero37
  have hu37 := Try.underlying97
  have H := Aside0.mk (Option.some.inj h)
  clear h
  go_enter Try.func51, Try.ntmps51
  go_wp2_with (first | (go_at_call 53; refine (sum_single.calls0 _).mono ?_; rintro e w1 ⟨rfl, hb1⟩) | (refine wpList_store_row rfl 97 _ _ rfl _ (tabTo 256) rfl rfl 97 (tabTo 0) (heap_alloc_last _ _) (info37 (tabTo_size 256 (by omega))) (by rw [tabTo_size 0 (by omega), tabTo_size 256 (by omega)]) (tabTo_one _) ?_; rw [World.setRow_alloc_new]))
  have hb2 : Below w.heap.size w (w1.alloc (.cells (tabTo 256) 97)) := below_alloc hb1 _
  have HR1 := Aside0.mk (Kd.C_below hr1 hb2)
  have HT := Aside0.mk (tab_cell w1)
  have HB := Aside0.mk hb2
  have HC := Aside0.mk (show l1.length ≤ 9223372036854775807 from hr1.2.1)
  clear hr1 hb2 hb1 hal
  go_loop [0, 13] (fun v0 v13 => ∃ k : Nat, k ≤ l1.length ∧ v13 = .int .i64 k ∧ v0 = .int .u32 (crcFold (flip32 a0) (l1.take k))) (fun _ v13 => l1.length - (intOf v13).toNat)
  case atStart => exact ⟨0, by omega, rfl, rfl⟩
  case round =>
    obtain ⟨k, hk, rfl, rfl⟩ := hrel
    have hlen := HC.out
    by_cases hlt : k < l1.length
    · have hs := Aside0.mk (show crcFold (flip32 a0) (l1.take (k + 1)) = crcStep (crcFold (flip32 a0) (l1.take k)) (rd l1 k) by
        unfold crcFold
        rw [List.take_succ_eq_append_getElem hlt, List.foldl_append]
        simp [rd, hlt])
      obtain ⟨s, hs0⟩ : ∃ s, crcFold (flip32 a0) (l1.take k) = s := ⟨_, rfl⟩
      rw [hs0] at hs ⊢
      clear hs0
      have q0 : 0 ≤ (k : Int) := by omega
      have q1 : (k : Int) < (l1.length : Int) := by omega
      obtain ⟨ad, e, hx⟩ := Kd.at_int HR1.out (k : Int) q0 q1
      cases e
      rw [Int.toNat_natCast] at hx
      generalize rd l1 (k : Int) = c at *
      have hx0 := tabAt_lo s c
      have hcell := HT.out (tabAt s c) hx0.1 hx0.2
      obtain ⟨x, hxx⟩ : ∃ x, tabAt s c = x := ⟨_, rfl⟩
      have hst := Aside0.mk (show crcStep s c = Go.bits .xor .u32 (s / 256) (csteps 8 x) by unfold crcStep; rw [hxx])
      rw [hxx] at hx0 hcell
      unfold tabAt at hxx
      obtain ⟨y0, y1⟩ := hx0
      go_wp2
      go_round
      case rel => exact ⟨k + 1, by omega, by go_num, by rw [hs.out, hst.out]⟩
      case measure => simp [intOf]; omega
    · have hend := Aside0.mk (show flip32 (crcFold (flip32 a0) (l1.take k)) = r by rw [← H.out, List.take_of_length_le (by omega)])
      go_wp2
      go_ret
      exact ⟨by rw [← hend.out]; rfl, HB.out⟩
end Go.Proofs.Ytdamiipeijnpnaa.Q
