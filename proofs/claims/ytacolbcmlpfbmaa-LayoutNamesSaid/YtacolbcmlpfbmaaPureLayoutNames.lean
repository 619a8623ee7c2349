/- The limits are those that the document gives: LayoutNames. -/
import Derived.Test.YtacolbcmlpfbmaaPAllx3
import Derived.Test.YtacolbcmlpfbmaaLayA
namespace Go.Proofs.Ytacolbcmlpfbmaa.Pure
open Go.RowKit Go.Proofs.Ytacolbcmlpfbmaa.PAll Go.Proofs.YtacolbcmlpfbmaaW.PrintWords Go.Proofs.YtacolbcmlpfbmaaW.PrintLast Go.Proofs.Ytacolbcmlpfbmaa.LayA
set_option linter.unusedVariables false

theorem LayoutNames : aumbrylaw14_LayoutNames.Pure := by
  apply Ev.rounds
  unfold aumbrylaw14_LayoutNames.f
  exact Ev.bind LayA.awake (ev_pos rfl (Ev.now _))

end Go.Proofs.Ytacolbcmlpfbmaa.Pure
