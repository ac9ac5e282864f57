/- (*field.Reader).Text: a text behind its length, by hand. -/
import Derived.Test.YtcgpbakimkhdpaaGReaderNum
namespace Go.Proofs.Ytcgpbakimkhdpaa.Q
open Go.RowKit Go.Proofs.YtcgpbakimkhdpaaW.PrintWords Go.Proofs.YtcgpbakimkhdpaaW.PrintLast Go.Proofs.YtcgpbakimkhdpaaW.PrintMore
set_option linter.unusedVariables false
set_option linter.unusedSimpArgs false

def field_Reader_Text.f (s0_0 : List Int) (s0_1 : Int) (s0_2 : Int) (s0_3 : Int) (a1 : Int) : Option (ByteArray × Int × Int × Int) :=
  (field_Reader_Num.f s0_0 s0_1 s0_2 s0_3).bind fun q =>
    if okR q.2.2.1 q.2.2.2 = true then
      if q.1 > a1 then some (⟨#[]⟩, s0_1, s0_1, 4)
      else if q.1 > wrap64 ((s0_0.length : Int) - q.2.1) then some (⟨#[]⟩, s0_1, s0_1, 2)
      else if 0 ≤ q.2.1 ∧ 0 ≤ q.1 ∧ q.2.1 + q.1 ≤ (s0_0.length : Int) then some (strOfNums ((s0_0.take (q.2.1 + q.1).toNat).drop q.2.1.toNat), q.2.1 + q.1, q.2.2.1, q.2.2.2)
      else none
    else some (⟨#[]⟩, q.2.1, q.2.2.1, q.2.2.2)

set_option maxHeartbeats 2000000 in
set_option maxRecDepth 100000 in
theorem field_Reader_Text.calls (g : Nat) (s0_0 : List Int) (s0_1 : Int) (s0_2 : Int) (s0_3 : Int) (a1 : Int) (r1 : ByteArray) (r2 : Int) (r3 : Int) (r4 : Int) (w0 w : World) (hI : IsS66 w0 w g s0_0 s0_1 s0_2 s0_3) (hB : Below w0.heap.size w0 w) (h : field_Reader_Text.f s0_0 s0_1 s0_2 s0_3 a1 = some (r1, r2, r3, r4)) :
    Calls Try.prog 16 #[.pointer (some ⟨g, 0, none⟩), .int .i64 a1] w fun e w' => e = .returned (.string r1) ∧ IsS66 w0 w' g s0_0 r2 r3 r4 ∧ Below w0.heap.size w0 w' ∧ KeepBut w w' g none := by
  have HK := Aside0.mk (KeepBut.refl w g none)
  have HI := Aside0.mk hI
  have HB := Aside0.mk hB
  unfold field_Reader_Text.f at h
  obtain ⟨⟨n, at_, fa, fe⟩, hn, h⟩ := Option.bind_eq_some_iff.1 h
  have A0 := Aside0.mk hn
  dsimp only at h
  obtain ⟨B0, c0, hg, hge, hC, hcap⟩ := hI
  have hc1 := cellS66_1 hg
  have hlen : s0_0.length ≤ 9223372036854775807 := hC.2.1
  clear hB hC hge hg hcap hn
  by_cases ho : okR fa fe = true
  · rw [if_pos ho] at h
    have A1 := Aside0.mk ((okR_f s0_0 at_ fa fe).trans (by rw [ho]))
    have HF := Aside0.mk (fun e => failR_f s0_0 at_ fa fe s0_1 e ho)
    clear ho
    by_cases hm : n > a1
    · rw [if_pos hm] at h
      simp only [Option.some.injEq, Prod.mk.injEq] at h
      obtain ⟨rfl, rfl, rfl, rfl⟩ := h
      have hd : decide (a1 < n) = true := decide_eq_true hm
      have A3 := Aside0.mk (HF.out 4)
      clear hm HF
      go_enter Try.func16, Try.ntmps16
      go_wp2_with (first | (go_at_call 15; refine (field_Reader_Num.calls g _ _ _ _ _ _ _ _ w0 _ HI.out HB.out A0.out).mono ?_; rintro e w1 ⟨rfl, hi, hb, hk⟩; have HI1 := Aside0.mk hi; have HB1 := Aside0.mk hb; have HK1 := Aside0.mk (KeepBut.trans HK.out hk (.inl rfl)); clear hi hb hk) | (go_at_call 29; refine (field_Reader_ok.calls g _ _ _ _ _ _ _ _ w0 _ HI1.out HB1.out A1.out).mono ?_; rintro e w2 ⟨rfl, hi, hb, hk⟩; have HI2 := Aside0.mk hi; have HB2 := Aside0.mk hb; have HK2 := Aside0.mk (KeepBut.trans HK1.out hk (.inl rfl)); clear hi hb hk) | (go_at_call 31; refine (field_Reader_fail.calls g _ _ _ _ _ _ _ _ _ w0 _ HI2.out HB2.out A3.out).mono ?_; rintro e w3 ⟨rfl, hi, hb, hk⟩; have HI3 := Aside0.mk hi; have HB3 := Aside0.mk hb; have HK3 := Aside0.mk (KeepBut.trans HK2.out hk (.inl rfl)); clear hi hb hk))
      go_ret
      exact ⟨rfl, HI3.out, HB3.out, HK3.out⟩
    · rw [if_neg hm] at h
      have hd : decide (a1 < n) = false := decide_eq_false hm
      clear hm
      have A2 := Aside0.mk (leftR_f s0_0 at_ fa fe)
      by_cases hl : n > wrap64 ((s0_0.length : Int) - at_)
      · rw [if_pos hl] at h
        simp only [Option.some.injEq, Prod.mk.injEq] at h
        obtain ⟨rfl, rfl, rfl, rfl⟩ := h
        have hd2 : decide (wrap64 ((s0_0.length : Int) - at_) < n) = true := decide_eq_true hl
        have A3 := Aside0.mk (HF.out 2)
        generalize wrap64 ((s0_0.length : Int) - at_) = m at *
        clear hl HF
        go_enter Try.func16, Try.ntmps16
        go_wp2_with (first | (go_at_call 15; refine (field_Reader_Num.calls g _ _ _ _ _ _ _ _ w0 _ HI.out HB.out A0.out).mono ?_; rintro e w1 ⟨rfl, hi, hb, hk⟩; have HI1 := Aside0.mk hi; have HB1 := Aside0.mk hb; have HK1 := Aside0.mk (KeepBut.trans HK.out hk (.inl rfl)); clear hi hb hk) | (go_at_call 29; refine (field_Reader_ok.calls g _ _ _ _ _ _ _ _ w0 _ HI1.out HB1.out A1.out).mono ?_; rintro e w2 ⟨rfl, hi, hb, hk⟩; have HI2 := Aside0.mk hi; have HB2 := Aside0.mk hb; have HK2 := Aside0.mk (KeepBut.trans HK1.out hk (.inl rfl)); clear hi hb hk) | (go_at_call 30; refine (field_Reader_left.calls g _ _ _ _ _ _ _ _ w0 _ HI2.out HB2.out A2.out).mono ?_; rintro e w3 ⟨rfl, hi, hb, hk⟩; have HI3 := Aside0.mk hi; have HB3 := Aside0.mk hb; have HK3 := Aside0.mk (KeepBut.trans HK2.out hk (.inl rfl)); clear hi hb hk) | (go_at_call 31; refine (field_Reader_fail.calls g _ _ _ _ _ _ _ _ _ w0 _ HI3.out HB3.out A3.out).mono ?_; rintro e w4 ⟨rfl, hi, hb, hk⟩; have HI4 := Aside0.mk hi; have HB4 := Aside0.mk hb; have HK4 := Aside0.mk (KeepBut.trans HK3.out hk (.inl rfl)); clear hi hb hk))
        go_ret
        exact ⟨rfl, HI4.out, HB4.out, HK4.out⟩
      · rw [if_neg hl] at h
        by_cases hin : 0 ≤ at_ ∧ 0 ≤ n ∧ at_ + n ≤ (s0_0.length : Int)
        · rw [if_pos hin] at h
          simp only [Option.some.injEq, Prod.mk.injEq] at h
          obtain ⟨rfl, rfl, rfl, rfl⟩ := h
          obtain ⟨h0, h1, h8⟩ := hin
          have hd2 : decide (wrap64 ((s0_0.length : Int) - at_) < n) = false := decide_eq_false hl
          have hw : wrap64 (at_ + n) = at_ + n := by unfold wrap64; omega
          have hww : IntKind.i64.wrap (at_ + n) = at_ + n := by rw [IntKind.wrap_i64]; omega
          have H0 := Aside0.mk h0
          have H1 := Aside0.mk h1
          have H8 := Aside0.mk h8
          generalize wrap64 ((s0_0.length : Int) - at_) = m at *
          clear hl HF h0 h1 h8 hlen
          go_enter Try.func16, Try.ntmps16
          go_upto_region 11 with (first | (go_at_call 15; refine (field_Reader_Num.calls g _ _ _ _ _ _ _ _ w0 _ HI.out HB.out A0.out).mono ?_; rintro e w1 ⟨rfl, hi, hb, hk⟩; have HI1 := Aside0.mk hi; have HB1 := Aside0.mk hb; have HK1 := Aside0.mk (KeepBut.trans HK.out hk (.inl rfl)); clear hi hb hk) | (go_at_call 29; refine (field_Reader_ok.calls g _ _ _ _ _ _ _ _ w0 _ HI1.out HB1.out A1.out).mono ?_; rintro e w2 ⟨rfl, hi, hb, hk⟩; have HI2 := Aside0.mk hi; have HB2 := Aside0.mk hb; have HK2 := Aside0.mk (KeepBut.trans HK1.out hk (.inl rfl)); clear hi hb hk) | (go_at_call 30; refine (field_Reader_left.calls g _ _ _ _ _ _ _ _ w0 _ HI2.out HB2.out A2.out).mono ?_; rintro e w3 ⟨rfl, hi, hb, hk⟩; have HI3 := Aside0.mk hi; have HB3 := Aside0.mk hb; have HK3 := Aside0.mk (KeepBut.trans HK2.out hk (.inl rfl)); clear hi hb hk))
          obtain ⟨A5, c5, hg5, hge5, hC5, hcap5⟩ := HI3.out
          have hc50 := cellS66_0 hg5
          have hc51 := cellS66_1 hg5
          have hf51 := blk_frozen hg5 1
          clear hg5 hge5 hc1
          obtain ⟨i0, hi0, _, hsz0, _⟩ := info_parts infoR
          obtain ⟨A6, hcut, hA6, hC6⟩ := print_mid_of (P := Try.prog) (Value.int .u8) 0 24 5 .i64 .i64 Try.underlying24 hi0 hsz0 A5 c5 s0_0 at_ (at_ + n) H0.out (by have := H1.out; omega) H8.out hcap5
          have HR := Aside0.mk (show (Kd.int .u8).C w3 A6 _ _ from Kd.C_below (Kd.C_of_reads (h1 := fun _ => rfl) (hA6 _ (Kd.reads_of_C hC5))) HB3.out)
          have hcv := fun m_ : Nat => Kd.C_string (P := Try.prog) (w := w3.drewN m_) (A := A6) (c := c5 - at_.toNat) Try.underlying24 Try.underlying5 Try.underlying9 (Kd.C_drewN HR.out m_)
          clear hA6 hC6 hC5 hcap5 hi0 hsz0
          obtain ⟨l, hl⟩ : ∃ l, (s0_0.take (at_ + n).toNat).drop at_.toNat = l := ⟨_, rfl⟩
          rw [hl] at hcut hcv HR
          have HLL := Aside0.mk hl
          clear hl
          go_quiet (fail)
          go_wp2
          go_ret
          exact ⟨by rw [HLL.out]; rfl, by repeat (first | (with_reducible first | exact HI3.out | apply IsS66.set_1 | apply IsS66.drewN | apply IsS66.drew) | exact HI3.out), by repeat (first | (with_reducible first | exact HB3.out | apply below_alloc | apply pw_below_drewN | apply below_drew1 | refine below_set ?_ (IsS66.ge HI3.out)) | exact HB3.out), by repeat (first | (with_reducible first | exact HK3.out | apply KeepBut.set_ | apply keep_drewN | apply keep_drew | apply keep_alloc) | exact HK3.out)⟩
        · rw [if_neg hin] at h
          cases h
  · rw [if_neg ho] at h
    simp only [Option.some.injEq, Prod.mk.injEq] at h
    obtain ⟨rfl, rfl, rfl, rfl⟩ := h
    have A1 := Aside0.mk ((okR_f s0_0 at_ fa fe).trans (by rw [Bool.eq_false_iff.mpr ho]))
    clear ho
    go_enter Try.func16, Try.ntmps16
    go_wp2_with (first | (go_at_call 15; refine (field_Reader_Num.calls g _ _ _ _ _ _ _ _ w0 _ HI.out HB.out A0.out).mono ?_; rintro e w1 ⟨rfl, hi, hb, hk⟩; have HI1 := Aside0.mk hi; have HB1 := Aside0.mk hb; have HK1 := Aside0.mk (KeepBut.trans HK.out hk (.inl rfl)); clear hi hb hk) | (go_at_call 29; refine (field_Reader_ok.calls g _ _ _ _ _ _ _ _ w0 _ HI1.out HB1.out A1.out).mono ?_; rintro e w2 ⟨rfl, hi, hb, hk⟩; have HI2 := Aside0.mk hi; have HB2 := Aside0.mk hb; have HK2 := Aside0.mk (KeepBut.trans HK1.out hk (.inl rfl)); clear hi hb hk))
    go_ret
    exact ⟨rfl, HI2.out, HB2.out, HK2.out⟩
end Go.Proofs.Ytcgpbakimkhdpaa.Q
