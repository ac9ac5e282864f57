/- (*field.Reader).Num: a number of eight bytes, by hand. -/
import Derived.Test.YtchfkkpghipeiaaDoorQx9
import Derived.Test.YtchfkkpghipeiaaDoorQx9
import Derived.Test.YtchfkkpghipeiaaDoorQx8
import Derived.Lib.SliceRun
import Derived.Lib.Hide
import Derived.Outline
namespace Go.Proofs.YtchfkkpghipeiaaDoor.Q
open Go.RowKit Go.Proofs.YtchfkkpghipeiaaDoorW.PrintWords Go.Proofs.YtchfkkpghipeiaaDoorW.PrintLast Go.Proofs.YtchfkkpghipeiaaDoorW.PrintMore
set_option linter.unusedVariables false
set_option linter.unusedSimpArgs false

theorem infoR : (Tryd.prog.info? 5).map (fun i => (i.zero, i.size, i.bytes)) = some (some (.int .u8 0), 1, 1) := by kernel_rfl
def vstep (v c : Int) : Int := Go.bits .or .u64 ((v * 256) % 18446744073709551616) (c % 18446744073709551616)
def vfold (l : List Int) : Int := l.foldl vstep 0
def okR (fa fe : Int) : Bool := fa == 0 && (fe == 0)
def field_Reader_Num.f (s0_0 : List Int) (s0_1 : Int) (s0_2 : Int) (s0_3 : Int) : Option (Int × Int × Int × Int) :=
  if okR s0_2 s0_3 = true then
    if wrap64 ((s0_0.length : Int) - s0_1) < 8 then some (0, s0_1, s0_1, 2)
    else if 0 ≤ s0_1 ∧ s0_1 + 8 ≤ (s0_0.length : Int) then
      if vfold ((s0_0.take (s0_1 + 8).toNat).drop s0_1.toNat) > 4611686018427387904 then some (0, s0_1, s0_1, 4)
      else some (wrap64 (vfold ((s0_0.take (s0_1 + 8).toNat).drop s0_1.toNat)), s0_1 + 8, s0_2, s0_3)
    else none
  else some (0, s0_1, s0_2, s0_3)
theorem okR_f (b : List Int) (at_ fa fe : Int) : field_Reader_ok.f b at_ fa fe = some (okR fa fe, at_, fa, fe) := rfl
theorem leftR_f (b : List Int) (at_ fa fe : Int) : field_Reader_left.f b at_ fa fe = some (wrap64 ((b.length : Int) - at_), at_, fa, fe) := rfl
theorem failR_f (b : List Int) (at_ fa fe x e : Int) (h : okR fa fe = true) : field_Reader_fail.f b at_ fa fe x e = some (x, x, e) := by
  unfold okR at h
  unfold field_Reader_fail.f
  rw [if_pos h]

set_option maxHeartbeats 1000000 in
set_option maxRecDepth 100000 in
theorem field_Reader_Num.calls (g : Nat) (s0_0 : List Int) (s0_1 : Int) (s0_2 : Int) (s0_3 : Int) (r1 : Int) (r2 : Int) (r3 : Int) (r4 : Int) (w0 w : World) (hI : IsS73 w0 w g s0_0 s0_1 s0_2 s0_3) (hB : Below w0.heap.size w0 w) (h : field_Reader_Num.f s0_0 s0_1 s0_2 s0_3 = some (r1, r2, r3, r4)) :
    Calls Tryd.prog 23 #[.pointer (some ⟨g, 0, none⟩)] w fun e w' => e = .returned (.int .i64 r1) ∧ IsS73 w0 w' g s0_0 r2 r3 r4 ∧ Below w0.heap.size w0 w' ∧ KeepBut w w' g none := by
  have HK := Aside0.mk (KeepBut.refl w g none)
  have HI := Aside0.mk hI
  have HB := Aside0.mk hB
  unfold field_Reader_Num.f at h
  obtain ⟨A0, c0, hg, hge, hC, hcap⟩ := hI
  have hc1 := cellS73_1 hg
  have hc0 := cellS73_0 hg
  have hCR := Aside0.mk hC
  clear hB hC hge hg hcap
  by_cases ho : okR s0_2 s0_3 = true
  · rw [if_pos ho] at h
    have A1 := Aside0.mk ((okR_f s0_0 s0_1 s0_2 s0_3).trans (by rw [ho]))
    have HF := fun e => Aside0.mk (failR_f s0_0 s0_1 s0_2 s0_3 s0_1 e ho)
    clear ho
    by_cases hl : wrap64 ((s0_0.length : Int) - s0_1) < 8
    · rw [if_pos hl] at h
      simp only [Option.some.injEq, Prod.mk.injEq] at h
      obtain ⟨rfl, rfl, rfl, rfl⟩ := h
      have A2 := Aside0.mk (leftR_f s0_0 s0_1 s0_2 s0_3)
      have hd := decide_eq_true hl
      have A3 := HF 2
      generalize wrap64 ((s0_0.length : Int) - s0_1) = m at *
      clear hl HF hc0
      go_enter Tryd.func23, Tryd.ntmps23
      go_wp2_with (first | (go_at_call 32; refine (field_Reader_ok.calls g _ _ _ _ _ _ _ _ w0 _ HI.out HB.out A1.out).mono ?_; rintro e w1 ⟨rfl, hi, hb, hk⟩; have HI1 := Aside0.mk hi; have HB1 := Aside0.mk hb; have HK1 := Aside0.mk (KeepBut.trans HK.out hk (.inl rfl)); clear hi hb hk) | (go_at_call 34; refine (field_Reader_left.calls g _ _ _ _ _ _ _ _ w0 _ HI1.out HB1.out A2.out).mono ?_; rintro e w2 ⟨rfl, hi, hb, hk⟩; have HI2 := Aside0.mk hi; have HB2 := Aside0.mk hb; have HK2 := Aside0.mk (KeepBut.trans HK1.out hk (.inl rfl)); clear hi hb hk) | (go_at_call 33; refine (field_Reader_fail.calls g _ _ _ _ _ _ _ _ _ w0 _ HI2.out HB2.out A3.out).mono ?_; rintro e w3 ⟨rfl, hi, hb, hk⟩; have HI3 := Aside0.mk hi; have HB3 := Aside0.mk hb; have HK3 := Aside0.mk (KeepBut.trans HK2.out hk (.inl rfl)); clear hi hb hk))
      go_ret
      exact ⟨rfl, HI3.out, HB3.out, HK3.out⟩
    · rw [if_neg hl] at h
      by_cases hin : 0 ≤ s0_1 ∧ s0_1 + 8 ≤ (s0_0.length : Int)
      · rw [if_pos hin] at h
        obtain ⟨h0, h8⟩ := hin
        have hlen : s0_0.length ≤ 9223372036854775807 := hCR.out.2.1
        have A2 := Aside0.mk (leftR_f s0_0 s0_1 s0_2 s0_3)
        have hd := decide_eq_false hl
        have HFr := Aside0.mk (fun e => (HF e).out)
        have hw : wrap64 (s0_1 + 8) = s0_1 + 8 := by unfold wrap64; omega
        have Hh := Aside0.mk h
        have H0 := Aside0.mk h0
        have H8 := Aside0.mk h8
        have HL := Aside0.mk hlen
        generalize wrap64 ((s0_0.length : Int) - s0_1) = m at *
        clear hl hc0 h HF h0 h8 hlen hCR
        go_enter Tryd.func23, Tryd.ntmps23
        go_upto_region 8 with (first | (go_at_call 32; refine (field_Reader_ok.calls g _ _ _ _ _ _ _ _ w0 _ HI.out HB.out A1.out).mono ?_; rintro e w1 ⟨rfl, hi, hb, hk⟩; have HI1 := Aside0.mk hi; have HB1 := Aside0.mk hb; have HK1 := Aside0.mk (KeepBut.trans HK.out hk (.inl rfl)); clear hi hb hk) | (go_at_call 34; refine (field_Reader_left.calls g _ _ _ _ _ _ _ _ w0 _ HI1.out HB1.out A2.out).mono ?_; rintro e w2 ⟨rfl, hi, hb, hk⟩; have HI2 := Aside0.mk hi; have HB2 := Aside0.mk hb; have HK2 := Aside0.mk (KeepBut.trans HK1.out hk (.inl rfl)); clear hi hb hk))
        obtain ⟨A2, c2, hg2, hge2, hC2, hcap2⟩ := HI2.out
        have hc0 := cellS73_0 hg2
        have hc1 := cellS73_1 hg2
        have hf1 := blk_frozen hg2 1
        clear hg2 hge2
        obtain ⟨i0, hi0, _, hsz0, _⟩ := info_parts infoR
        obtain ⟨A3, hcut, hA3, hC3⟩ := print_mid_of (P := Tryd.prog) (Value.int .u8) 0 35 5 .i64 .i64 Tryd.underlying35 hi0 hsz0 A2 c2 s0_0 s0_1 (s0_1 + 8) H0.out (by omega) H8.out hcap2
        have HR := Aside0.mk (show (Kd.int .u8).C w2 A3 _ _ from Kd.C_below (Kd.C_of_reads (h1 := fun _ => rfl) (hA3 _ (Kd.reads_of_C hC2))) HB2.out)
        have hln : ((s0_0.take (s0_1 + 8).toNat).drop s0_1.toNat).length = 8 := by
          have := H0.out; have := H8.out
          rw [List.length_drop, List.length_take]; omega
        obtain ⟨l, hl⟩ : ∃ l, (s0_0.take (s0_1 + 8).toNat).drop s0_1.toNat = l := ⟨_, rfl⟩
        rw [hl] at hln HR hcut
        have Hh2 := Aside0.mk (by have := Hh.out; rw [hl] at this; exact this)
        rw [hln] at HR hcut
        clear hA3 hC3 hC2 hcap2 hi0 hsz0 hl Hh
        have HLN := Aside0.mk hln
        clear hln
        go_wp2
        go_loop [4, 31] (fun v4 v31 => ∃ k : Nat, k ≤ 8 ∧ v31 = .int .i64 k ∧ v4 = .int .u64 (vfold (l.take k))) (fun _ v31 => 8 - (intOf v31).toNat)
        case atStart => exact ⟨0, by omega, rfl, rfl⟩
        case round =>
          obtain ⟨k, hk, rfl, rfl⟩ := hrel
          by_cases hlt : k < 8
          · have hs := Aside0.mk (show vfold (l.take (k + 1)) = vstep (vfold (l.take k)) (rd l k) by
              have h8 : k < l.length := by rw [HLN.out]; exact hlt
              unfold vfold
              rw [List.take_succ_eq_append_getElem h8, List.foldl_append]
              simp [rd, h8])
            obtain ⟨s, hs0⟩ : ∃ s, vfold (l.take k) = s := ⟨_, rfl⟩
            rw [hs0] at hs ⊢
            clear hs0
            have q0 : 0 ≤ (k : Int) := by omega
            have q1 : (k : Int) < ((8 : Nat) : Int) := by omega
            obtain ⟨ad, e, hx⟩ := Kd.at_int HR.out (k : Int) q0 q1
            cases e
            rw [Int.toNat_natCast] at hx
            generalize rd l (k : Int) = c at *
            go_wp2
            go_round
            case rel => exact ⟨k + 1, by omega, by go_num, by rw [hs.out]; rfl⟩
            case measure => simp [intOf]; omega
          · have hkk : k = 8 := by omega
            subst hkk
            have hall : l.take 8 = l := List.take_of_length_le (by rw [HLN.out]; exact Nat.le_refl _)
            rw [hall]
            have h := Hh2.out
            generalize vfold l = v at *
            clear Hh2
            by_cases hv : v > 4611686018427387904
            · rw [if_pos hv] at h
              simp only [Option.some.injEq, Prod.mk.injEq] at h
              obtain ⟨rfl, rfl, rfl, rfl⟩ := h
              have hd2 : decide (4611686018427387904 < v) = true := decide_eq_true hv
              have A3 := HFr.out 4
              clear hv
              go_wp2_with (first | (go_at_call 33; refine (field_Reader_fail.calls g _ _ _ _ _ _ _ _ _ w0 _ HI2.out HB2.out A3).mono ?_; rintro e w3 ⟨rfl, hi, hb, hk⟩; have HI3 := Aside0.mk hi; have HB3 := Aside0.mk hb; have HK3 := Aside0.mk (KeepBut.trans HK2.out hk (.inl rfl)); clear hi hb hk))
              go_ret
              exact ⟨rfl, HI3.out, HB3.out, HK3.out⟩
            · rw [if_neg hv] at h
              simp only [Option.some.injEq, Prod.mk.injEq] at h
              obtain ⟨rfl, rfl, rfl, rfl⟩ := h
              have hd2 : decide (4611686018427387904 < v) = false := decide_eq_false hv
              clear hv
              go_wp2
              go_ret
              exact ⟨rfl, IsS73.set_1 HI2.out _, below_set HB2.out (IsS73.ge HI2.out), by repeat (first | (with_reducible first | exact HK2.out | apply KeepBut.set_ | apply keep_drewN | apply keep_drew | apply keep_alloc) | exact HK2.out)⟩
      · rw [if_neg hin] at h
        cases h
  · rw [if_neg ho] at h
    simp only [Option.some.injEq, Prod.mk.injEq] at h
    obtain ⟨rfl, rfl, rfl, rfl⟩ := h
    have A1 := Aside0.mk ((okR_f s0_0 s0_1 s0_2 s0_3).trans (by rw [Bool.eq_false_iff.mpr ho]))
    clear ho
    go_enter Tryd.func23, Tryd.ntmps23
    go_wp2_with (first | (go_at_call 32; refine (field_Reader_ok.calls g _ _ _ _ _ _ _ _ w0 _ HI.out HB.out A1.out).mono ?_; rintro e w1 ⟨rfl, hi, hb, hk⟩; have HI1 := Aside0.mk hi; have HB1 := Aside0.mk hb; have HK1 := Aside0.mk (KeepBut.trans HK.out hk (.inl rfl)); clear hi hb hk))
    go_ret
    exact ⟨rfl, HI1.out, HB1.out, HK1.out⟩
end Go.Proofs.YtchfkkpghipeiaaDoor.Q
