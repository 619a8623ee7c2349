/- The check sum of any bytes, behind any others, is the reference's: CrcSums, for every input. -/
import Derived.Test.YtamlcdillkohhaaPAllx1
import Derived.Test.YtamlcdillkohhaaCrcA
namespace Go.Proofs.Ytamlcdillkohhaa.Pure
open Go.RowKit Go.Proofs.Ytamlcdillkohhaa.PAll Go.Proofs.YtamlcdillkohhaaW.PrintWords Go.Proofs.YtamlcdillkohhaaW.PrintLast Go.Proofs.Ytamlcdillkohhaa.CrcA
set_option linter.unusedVariables false

theorem CrcSums : aumbrylaw04_CrcSums.Pure := by
  intro a0 l1 h0 h1 h2 h3
  apply Ev.rounds
  unfold aumbrylaw04_CrcSums.f
  refine Ev.bind awake ?_
  by_cases hl : (l1.length : Int) > 3000
  · exact ev_pos hl (Ev.now _)
  · obtain ⟨S, rfl⟩ := of_u32 h0
    refine ev_neg hl (ev_pos rfl ?_)
    refine Ev.bind (CrcA.crc_Sum l1 (by omega)) (Ev.bind (CrcA.ref_Sum l1 (by omega)) (ev_pos rfl ?_))
    refine Ev.bind (CrcA.crc_More S l1 (by omega)) (Ev.bind (CrcA.ref_More S l1 (by omega)) ?_)
    simp only [BEq.rfl]
    exact Ev.now _

end Go.Proofs.Ytamlcdillkohhaa.Pure
