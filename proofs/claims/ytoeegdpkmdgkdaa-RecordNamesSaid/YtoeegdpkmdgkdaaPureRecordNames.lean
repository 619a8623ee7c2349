/- The numbers of the error and of kinds, and the limit, are those that the document gives: RecordNames (and 'awake', which every statement of this chapter begins with, answers true). -/
import Derived.Test.YtoeegdpkmdgkdaaPAllx8
namespace Go.Proofs.Ytoeegdpkmdgkdaa.Pure
open Go.RowKit Go.Proofs.Ytoeegdpkmdgkdaa.PAll Go.Proofs.YtoeegdpkmdgkdaaW.PrintWords Go.Proofs.YtoeegdpkmdgkdaaW.PrintLast

theorem RecordNames : aumbrylaw16_RecordNames.Pure := rfl

end Go.Proofs.Ytoeegdpkmdgkdaa.Pure
