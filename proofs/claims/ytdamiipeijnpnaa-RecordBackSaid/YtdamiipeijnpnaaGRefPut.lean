/- The document's Put: a payload's form. -/
import Derived.Test.YtdamiipeijnpnaaGRefGet
namespace Go.Proofs.Ytdamiipeijnpnaa.Q
open Go.RowKit Go.Shelf Go.Proofs.YtdamiipeijnpnaaW.PrintWords Go.Proofs.YtdamiipeijnpnaaW.PrintLast Go.Proofs.YtdamiipeijnpnaaW.PrintMore
set_option linter.unusedVariables false
set_option linter.unusedSimpArgs false

def usufructref06_Put.f (k : Nat) (b : ByteArray) : Option ByteArray :=
  if b.size ≤ 1000000 then (usufructref06_four.f (b.size : Int)).bind fun n => if n.size = 4 then (usufructref03_Of.f k (bytesOf n)).bind fun c1 => (usufructref06_four.f c1).bind fun f1 => if f1.size = 4 then (usufructref03_Of.f k (bytesOf b)).bind fun c2 => (usufructref06_four.f c2).bind fun f2 => if f2.size = 4 then some ((((⟨#[90]⟩ : ByteArray) ++ n ++ f1) ++ b) ++ f2) else none else none else none else none

set_option maxRecDepth 100000 in
set_option maxHeartbeats 1000000 in
theorem usufructref06_Put.calls (k : Nat) (a0 : ByteArray) (r : ByteArray) (w : World) (h : usufructref06_Put.f k a0 = some r) :
    Calls Try.prog 36 #[.string a0] w fun e w' => e = .returned (.string r) ∧ Below w.heap.size w w' := by
  unfold usufructref06_Put.f at h
  by_cases hsz : a0.size ≤ 1000000
  · rw [if_pos hsz] at h
    obtain ⟨n, hn, h⟩ := Option.bind_eq_some_iff.1 h
    by_cases z0 : n.size = 4
    · rw [if_pos z0] at h
      obtain ⟨c1, hc1, h⟩ := Option.bind_eq_some_iff.1 h
      obtain ⟨f1, hf1, h⟩ := Option.bind_eq_some_iff.1 h
      by_cases z1 : f1.size = 4
      · rw [if_pos z1] at h
        obtain ⟨c2, hc2, h⟩ := Option.bind_eq_some_iff.1 h
        obtain ⟨f2, hf2, h⟩ := Option.bind_eq_some_iff.1 h
        by_cases z2 : f2.size = 4
        · rw [if_pos z2] at h
          obtain rfl := Option.some.inj h
          clear h
          have HB := Aside0.mk (Below.refl w.heap.size w)
          go_enter Try.func36, Try.ntmps36
          go_wp2_with (first
            | (go_at_call 47; with_reducible refine (usufructref06_four.calls (a0.size : Int) n _ hn).mono ?_; rintro e w1 ⟨rfl, hb1⟩; have HB1 := Aside0.mk (below_step HB.out hb1); obtain ⟨A2, d2, w2, hrun2, hr2, hd2, hb2⟩ := conv_reads w1 n (by omega); have hcall2 := usufructref03_Of.calls k A2 d2 (bytesOf n) c1 w2 (by rw [bytesOf_length]; exact hr2) (by rw [bytesOf_length]; exact hd2) hc1; rw [bytesOf_length, z0] at hcall2; rw [z0] at hrun2)
            | (go_at_call 48; with_reducible refine hcall2.mono ?_; rintro e w3 ⟨rfl, hd3⟩; have HB3 := Aside0.mk (below_step (below_step HB1.out hb2) (below_drawn0 hd3)))
            | (go_at_call 47; with_reducible refine (usufructref06_four.calls c1 f1 _ hf1).mono ?_; rintro e w4 ⟨rfl, hb4⟩; have HB4 := Aside0.mk (below_step HB3.out hb4); obtain ⟨A5, d5, w5, hrun5, hr5, hd5, hb5⟩ := conv_reads w4 a0 (by omega); have hcall5 := usufructref03_Of.calls k A5 d5 (bytesOf a0) c2 w5 (by rw [bytesOf_length]; exact hr5) (by rw [bytesOf_length]; exact hd5) hc2; rw [bytesOf_length] at hcall5)
            | (go_at_call 48; with_reducible refine hcall5.mono ?_; rintro e w6 ⟨rfl, hd6⟩; have HB6 := Aside0.mk (below_step (below_step HB4.out hb5) (below_drawn0 hd6)))
            | (go_at_call 47; with_reducible refine (usufructref06_four.calls c2 f2 _ hf2).mono ?_; rintro e w7 ⟨rfl, hb7⟩; have HB7 := Aside0.mk (below_step HB6.out hb7)))
          go_ret
          exact ⟨rfl, HB7.out⟩
        · rw [if_neg z2] at h
          cases h
      · rw [if_neg z1] at h
        cases h
    · rw [if_neg z0] at h
      cases h
  · rw [if_neg hsz] at h
    cases h
theorem usufructref06_Put.mono : ∀ a0 k, LeO (usufructref06_Put.f k a0) (usufructref06_Put.f (k + 1) a0) := by
  intro a0 k
  unfold usufructref06_Put.f
  repeat' first
    | (with_reducible exact usufructref03_Of.mono _ _)
    | (with_reducible exact LeO.refl _)
    | (with_reducible refine LeO.ite ?_ ?_)
    | (with_reducible refine LeO.bind ?_ (fun _ => ?_))
end Go.Proofs.Ytdamiipeijnpnaa.Q
