/- The sum of all that is sealed is one and the same: of every row of bytes. -/
import Derived.Test.YtdbelgfkhollnaaBSeal
import Derived.Test.YtdbelgfkhollnaaQx2
namespace Go.Proofs.Ytdbelgfkhollnaa.Pure
set_option linter.unusedVariables false
open Go.RowKit Go.Proofs.Ytdbelgfkhollnaa.Q Go.Proofs.YtdbelgfkhollnaaW.PrintWords Go.Proofs.YtdbelgfkhollnaaW.PrintLast Go.Proofs.YtdbelgfkhollnaaW.PrintMore

theorem SumResidue : usufructlaw03_SumResidue.Pure := by
  intro l _ hl hw
  have hb := bytes_of hw
  unfold usufructlaw03_SumResidue.f
  rw [show usufructlaw03_awake.f = some true from rfl]
  simp only [Option.bind_some, if_true]
  by_cases h3 : (l.length : Int) > 300
  · rw [if_pos h3]
  · rw [if_neg h3, seal_eq hb (by omega)]
    simp only [Option.bind_some]
    rw [of_eq (fun c hc => by
      rcases List.mem_append.1 hc with h | h
      · exact hb c h
      · exact le4_bytes _ c h), crc_residue]
    rfl
end Go.Proofs.Ytdbelgfkhollnaa.Pure
