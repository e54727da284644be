/- Part of the proof: the walk over the program and its laws: Qe9. -/
import Derived.Test.YtlcphjcpoinolaaGreatP0
import Derived.Test.YtlcphjcpoinolaaGreatP21
import Derived.Test.YtlcphjcpoinolaaGreatP22
import Derived.Test.YtlcphjcpoinolaaGreatP23
import Derived.Test.YtlcphjcpoinolaaGreatP24
import Derived.Test.YtlcphjcpoinolaaGreatP25
import Derived.Test.YtlcphjcpoinolaaGreatP26
import Derived.Test.YtlcphjcpoinolaaGreatP27
import Derived.Test.YtlcphjcpoinolaaGreatP28
set_option linter.unusedVariables false
namespace Go.Proofs.YtlcphjcpoinolaaGreat
open Go.RowKit Go.Th
set_option maxRecDepth 20000
set_option maxHeartbeats 32000000 in
theorem XpI (k code i:Int) (text:ByteArray) (h:Head) (f:List Item) (r:List Row) (h1:k≠1) (h2:k≠2) (h3:k≠3) (h4:k≠4) (h5:k≠5) (h6:k≠6) (h7:k≠7) (h8:k≠8) :
    Iso Tryz.prog 180 [.agg (Xbs k code i text h f r)] (fun p=>p=I (Xbt k code i text f.length r.length)):=by
  have hG:=Xd
  have hin:inF k 1 8=false:=decide_eq_false (by omega)
  have hK:Iso Tryz.prog 113 [I k,I 1,I 8] (fun p=>p=B false):=hin ▸ Xcl k 1 8
  have tK:∀ c ∈ [I k,I 1,I 8],Xk c:=TreeL.cons (Xe _) (TreeL.cons (Xe _) (TreeL.cons (Xe _) TreeL.nil))
  refine ZaL ?_
  unfold Xbt
  rw [if_pos hin]
  clear hin
  repeat(first|refine Zes ?_|(refine Zao ?_;rintro _ rfl)|(refine ZH ?_;intro id G hG))
  exact ZB
theorem Xr3 (k code i:Int) (text:ByteArray) (h:Head) (f:List Item) (r:List Row) (hs:text.size≤1000000):Iso Tryz.prog 180 [.agg (Xbs k code i text h f r)] (fun p=>p=I (Xbt k code i text f.length r.length)):=by
  by_cases h1:k=1
  · subst h1;exact XpQ code i text h f r hs
  by_cases h2:k=2
  · subst h2;exact XpP code i text h f r hs
  by_cases h3:k=3
  · subst h3;exact XpO code i text h f r hs
  by_cases h4:k=4
  · subst h4;exact XpN code i text h f r hs
  by_cases h5:k=5
  · subst h5;exact XpM code i text h f r hs
  by_cases h6:k=6
  · subst h6;exact XpL code i text h f r hs
  by_cases h7:k=7
  · subst h7;exact XpK code i text h f r hs
  by_cases h8:k=8
  · subst h8;exact XpJ code i text h f r hs
  exact XpI k code i text h f r h1 h2 h3 h4 h5 h6 h7 h8
end Go.Proofs.YtlcphjcpoinolaaGreat
