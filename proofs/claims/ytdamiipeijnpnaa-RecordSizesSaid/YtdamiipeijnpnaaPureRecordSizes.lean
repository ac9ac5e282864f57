/- Which payloads have a form, and how long it is. -/
import Derived.Test.YtdamiipeijnpnaaQx20
import Derived.Test.YtdamiipeijnpnaaQx15
import Derived.Test.YtdamiipeijnpnaaGAwakeRec
import Derived.Test.YtdamiipeijnpnaaQx18
import Derived.Test.YtdamiipeijnpnaaQx17
namespace Go.Proofs.Ytdamiipeijnpnaa.Pure
set_option linter.unusedVariables false
set_option linter.unusedSimpArgs false
open Go.RowKit Go.Proofs.Ytdamiipeijnpnaa.Q Go.Proofs.YtdamiipeijnpnaaW.PrintWords Go.Proofs.YtdamiipeijnpnaaW.PrintLast Go.Proofs.YtdamiipeijnpnaaW.PrintMore

theorem RecordSizes : usufructlaw06_RecordSizes.Pure := by
  intro n hn
  refine ⟨2 + 1, ?_⟩
  unfold usufructlaw06_RecordSizes.f
  rw [show usufructlaw06_awake.f = some true from rfl, Option.bind_some, if_pos rfl, size_eq, Option.bind_some]
  by_cases h0 : n < 0
  · rw [if_pos h0, if_pos h0, usufructlaw06_RecordSizes.j0, if_pos rfl]
    rfl
  · rw [if_neg h0, if_neg h0, usufructlaw06_RecordSizes.j0]
    by_cases h1 : n > 65600
    · rw [if_pos (decide_eq_true h1), if_pos (by omega)]
      rfl
    · rw [if_neg (by rw [decide_eq_false h1]; decide)]
      by_cases h2 : n > 300 ∧ n < 65530
      · rw [if_pos h2.1, usufructlaw06_RecordSizes.j1, if_pos (decide_eq_true h2.2), if_neg (by omega)]
        have e : wrap64 (13 + n) = 13 + n := by unfold wrap64; omega
        rw [e, beq_self_eq_true]
      · have e : (if n > 300 then usufructlaw06_RecordSizes.j1 2 n (if n > 65536 then 0 else 13 + n) (decide (n < 65530)) else usufructlaw06_RecordSizes.j1 2 n (if n > 65536 then 0 else 13 + n) false) = usufructlaw06_RecordSizes.j1 2 n (if n > 65536 then 0 else 13 + n) false := by
          by_cases h3 : n > 300
          · rw [if_pos h3, decide_eq_false (by omega)]
          · rw [if_neg h3]
        refine e.trans ?_
        rw [usufructlaw06_RecordSizes.j1, if_neg (by decide), if_pos (by omega), if_pos (by omega)]
        have hlen : (List.replicate n.toNat (0 : Int)).length = n.toNat := List.length_replicate
        by_cases h4 : n > 65536
        · rw [put_big _ (by rw [hlen]; omega), Option.bind_some, if_pos h4, if_pos h4, if_pos rfl, if_pos rfl]
          rfl
        · obtain ⟨b, hb, hl⟩ := put_len (List.replicate n.toNat 0) (by rw [hlen]; omega)
          have e2 : wrap64 (13 + n) = 13 + n := by unfold wrap64; omega
          rw [hb, Option.bind_some, if_neg h4, if_neg h4, e2, if_pos rfl, if_pos rfl]
          dsimp only
          rw [hl, hlen]
          have e3 : (((13 + n.toNat : Nat) : Int)) = 13 + n := by omega
          rw [e3, beq_self_eq_true]
end Go.Proofs.Ytdamiipeijnpnaa.Pure
