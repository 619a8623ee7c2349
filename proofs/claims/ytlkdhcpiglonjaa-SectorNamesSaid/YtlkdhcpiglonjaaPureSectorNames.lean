/- The number of the error, and the limits, are those that the document gives: SectorNames. -/
import Derived.Test.YtlkdhcpiglonjaaPAllx2
import Derived.Test.YtlkdhcpiglonjaaSecA
namespace Go.Proofs.Ytlkdhcpiglonjaa.Pure
open Go.RowKit Go.Proofs.Ytlkdhcpiglonjaa.PAll Go.Proofs.YtlkdhcpiglonjaaW.PrintWords Go.Proofs.YtlkdhcpiglonjaaW.PrintLast Go.Proofs.Ytlkdhcpiglonjaa.CrcA Go.Proofs.Ytlkdhcpiglonjaa.SecA
set_option linter.unusedVariables false

theorem SectorNames : aumbrylaw11_SectorNames.Pure := by
  apply Ev.rounds
  unfold aumbrylaw11_SectorNames.f
  exact Ev.bind SecA.awake (ev_pos rfl (Ev.now _))

end Go.Proofs.Ytlkdhcpiglonjaa.Pure
