/- Part of the proof: the walk over the program and its laws: Lw Lx. -/
import Derived.Test.YtlcphjcpoinolaaGreatP0
import Derived.Test.YtlcphjcpoinolaaGreatP43
import Derived.Test.YtlcphjcpoinolaaGreatP11
import Derived.Test.YtlcphjcpoinolaaGreatP16
set_option linter.unusedVariables false
namespace Go.Proofs.YtlcphjcpoinolaaGreat
open Go.RowKit Go.Th
set_option maxRecDepth 20000
end Go.Proofs.YtlcphjcpoinolaaGreat
namespace Go.Proofs.YtlcphjcpoinolaaGreat
open Go.RowKit Go.Th
set_option maxRecDepth 20000
end Go.Proofs.YtlcphjcpoinolaaGreat
