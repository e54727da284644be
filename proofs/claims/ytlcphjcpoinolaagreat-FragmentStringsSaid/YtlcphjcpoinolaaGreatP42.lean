/- Part of the proof: the walk over the program and its laws: Ls Lt. -/
import Derived.Test.YtlcphjcpoinolaaGreatP0
import Derived.Test.YtlcphjcpoinolaaGreatP24
import Derived.Test.YtlcphjcpoinolaaGreatP18
import Derived.Test.YtlcphjcpoinolaaGreatP19
set_option linter.unusedVariables false
namespace Go.Proofs.YtlcphjcpoinolaaGreat
open Go.RowKit Go.Th
set_option maxRecDepth 20000
section
variable {P:Program} {n:Nat} {fx:List Nat × List Nat} {gid:Nat→Nat} {l:List Oper} {acc:List PV} {Hs:Nat→Xh} {i:Nat} {o:Oper} {os:List Oper} {p:PV} {E:Env} {d:Nat} {K:Env→Prop}
end
end Go.Proofs.YtlcphjcpoinolaaGreat
namespace Go.Proofs.YtlcphjcpoinolaaGreat
open Go.RowKit Go.Th
set_option maxRecDepth 20000
end Go.Proofs.YtlcphjcpoinolaaGreat
