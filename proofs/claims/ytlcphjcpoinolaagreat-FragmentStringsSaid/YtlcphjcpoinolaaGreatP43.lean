/- Part of the proof: the walk over the program and its laws: Lu Lv. -/
import Derived.Test.YtlcphjcpoinolaaGreatP0
import Derived.Test.YtlcphjcpoinolaaGreatP42
import Derived.Test.YtlcphjcpoinolaaGreatP3
set_option linter.unusedVariables false
namespace Go.Proofs.YtlcphjcpoinolaaGreat
open Go.RowKit Go.Th
set_option maxRecDepth 20000
section
variable {P:Program} {n:Nat} {l:List Oper} {acc:List PV} {Hs:Nat→Xh} {i:Nat} {o:Oper} {os:List Oper} {p:PV} {E:Env} {d:Nat} {K:Env→Prop}
end
end Go.Proofs.YtlcphjcpoinolaaGreat
namespace Go.Proofs.YtlcphjcpoinolaaGreat
open Go.RowKit Go.Th
set_option maxRecDepth 20000
end Go.Proofs.YtlcphjcpoinolaaGreat
