/- An array of two elements that can be read. -/
import Derived.OpenShut
import Derived.Test.YthnfbcicnmnhnaaBOpen
namespace Go.Proofs.Ythnfbcicnmnhnaa.Opn
set_option linter.unusedVariables false
open Go.RowKit Go.WideShapes Go.Deep Go.Proofs.YthnfbcicnmnhnaaW.PrintWords
theorem opens_two {P : Program} {t e : TypeId} {α : Type} {d : Kd α} {ok : α → Prop} (hc : P.cellsOf t = d.sz + d.sz) (h : Opens P e d ok) (ht : P.underlying t = some (.array 2 e)) : Opens P t (Kd.pair d d) (fun x => ok x.1 ∧ ok x.2) :=
  ⟨hc, fun {H enc W spare held fuel cs y} hy => by
    obtain ⟨xs, m, _, _, hlen, hxl, hx⟩ := DataW.trod_array ht hy
    rw [hc] at hlen
    have h0 := hx 0 (by omega)
    have h1 := hx 1 (by omega)
    rw [List.getElem?_eq_getElem (by omega), h.sz] at h0 h1
    obtain ⟨x0, k0, o0⟩ := h.go h0
    obtain ⟨x1, k1, o1⟩ := h.go h1
    refine ⟨(x0, x1), ⟨_, _, ?_, k0, k1⟩, o0, o1⟩
    rw [Nat.zero_mul, List.drop_zero, Nat.one_mul, List.take_of_length_le (l := cs.drop d.sz) (by rw [List.length_drop]; omega), List.take_append_drop]⟩
end Go.Proofs.Ythnfbcicnmnhnaa.Opn
