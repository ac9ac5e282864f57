/- Layer 4: what the document tells first holds: a walk. -/
import Derived.Test.YtdamiipeijnpnaaGNewReader
import Derived.Test.YtdamiipeijnpnaaGWriterBytes
import Derived.Test.YtdamiipeijnpnaaQx4
import Derived.Test.YtdamiipeijnpnaaQx5
namespace Go.Proofs.Ytdamiipeijnpnaa.Q
open Go.RowKit Go.Proofs.YtdamiipeijnpnaaW.PrintWords Go.Proofs.YtdamiipeijnpnaaW.PrintLast Go.Proofs.YtdamiipeijnpnaaW.PrintMore
set_option linter.unusedVariables false
set_option linter.unusedSimpArgs false

theorem flag_two : field_Reader_Flag.f [2] 0 0 0 = some (false, 0, 0, 3) := by kernel_rfl
theorem err_two : field_Reader_Err.f [2] 0 0 3 = some (0, 3, 0, 0, 3) := by kernel_rfl
theorem put_two : (strOfNums (nbs (clampN 258) 8)) = (⟨#[0, 0, 0, 0, 0, 0, 1, 2]⟩ : ByteArray) := by kernel_rfl
def usufructlaw04_awake.f : Option (Bool) := some true

set_option maxHeartbeats 2000000 in
set_option maxRecDepth 100000 in
theorem usufructlaw04_awake.calls (r : Bool) (w : World) (h : usufructlaw04_awake.f = some r) :
    Calls Try.prog 10 #[] w fun e w' => e = .returned (.bool r) ∧ Below w.heap.size w w' := by
  obtain rfl := Option.some.inj h
  clear h
  have hnr := Aside0.mk (show field_NewReader.f [2] = some ([2], 0, 0, 0) from rfl)
  go_enter Try.func10, Try.ntmps10
  go_wp2_with (first | ((with_reducible refine gate_dst (N := 6) rfl ?_); refine Kd.R_lit (Kd.int .u8) _ 5 ?hg (N := 6) ?hd (xs := ([2] : List Int)) (inner := [.int .u8 2]) (ok := fun _ => True) (okp := fun _ => True) ?hr ?hp (fun _ hk => hk) trivial (Below.refl _ _) (Nat.le_refl _) (by simp) ?_; (case hd => rfl); (case hg => rfl); (case hr => first | (go_simp; done) | (go_simp; rfl)); (case hp => exact (Reps.one (show Kd.M (Kd.int .u8) _ _ _ 2 [.int .u8 2] from rfl) (Reps.none _ _))); intro v1 w1 ho hb hg_ hnew_; obtain ⟨A1, c1, e1⟩ := Kd.R_slice ho; subst e1; have HO1 := Aside0.mk (Kd.R_reads' ho); have HB1 := Aside0.mk hb; clear hg_ hnew_ ho hb) | (go_at_call 16; refine (field_NewReader.calls A1 c1 [2] _ _ _ _ w1 w1 (Below.refl _ _) HO1.out.2.2 HO1.out.2.1 hnr.out).mono ?_; rintro e w2 ⟨g, wb, rfl, hi, hb, hb2, hbw⟩; have HI2 := Aside0.mk hi; have HB2 := Aside0.mk hb; have HBW := Aside0.mk (below_step HB1.out hbw); clear hi hb hb2 hbw) | (go_at_call 19; refine (field_Reader_Flag.calls g _ _ _ _ _ _ _ _ wb _ HI2.out HB2.out flag_two).mono ?_; rintro e w3 ⟨rfl, hi, hb, hk⟩; have HI3 := Aside0.mk hi; have HB3 := Aside0.mk hb; clear hi hb hk) | (go_at_call 27; refine (field_Reader_Err.calls g _ _ _ _ _ _ _ _ _ wb _ HI3.out HB3.out err_two).mono ?_; rintro e w4 ⟨rfl, hi, hb, hk⟩; have HB4 := Aside0.mk (below_step HBW.out hb); clear hi hb hk) | ((with_reducible refine gate_dst (N := 16) rfl ?_); refine box_event ?hg (N := 16) ?hd (cs := #[.slice none 0 0]) (t := 27) ?hr ?_; (case hd => rfl); (case hg => rfl); (case hr => first | (go_simp; done) | (go_simp; rfl)); intro gb hg w5 hbox hb; have HX := Aside0.mk (show IsW w w5 gb (.slice none 0 0) [] from ⟨hbox, by rw [hg]; exact HB4.out.size, Kd.R_nil _ _ _ _ _⟩); have HB5 := Aside0.mk (below_step HB4.out hb); clear hbox hb hg) | (go_at_call 11; refine (writer_Num.calls gb _ [] 258 w _ HX.out HB5.out (by decide) (by decide)).mono ?_; rintro e w6 ⟨v6, rfl, hi, hb, hk, hn⟩; have HI6 := Aside0.mk hi; have HB6 := Aside0.mk hb; clear hi hb hk hn) | (go_at_call 15; refine (writer_Bytes.calls gb _ _ w _ HI6.out (by decide)).mono ?_; rintro e w7 ⟨v7, rfl, hr, hi, hb⟩; have HB7 := Aside0.mk (below_step HB6.out hb); have hcv := own_string (P := Try.prog) Try.underlying25 Try.underlying5 Try.underlying9 (Kd.own_of_R hr); have hcv2 := hcv; rw [show ([] : List Int) ++ nbs (clampN 258) 8 = nbs (clampN 258) 8 from rfl, put_two] at hcv2; clear hr hi hb hcv))
  go_ret
  exact ⟨rfl, HB7.out⟩
end Go.Proofs.Ytdamiipeijnpnaa.Q
