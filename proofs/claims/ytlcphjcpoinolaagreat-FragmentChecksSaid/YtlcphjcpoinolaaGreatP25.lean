/- Part of the proof: the walk over the program and its laws: Qe5. -/
import Derived.Test.YtlcphjcpoinolaaGreatP0
import Derived.Test.YtlcphjcpoinolaaGreatP19
set_option linter.unusedVariables false
namespace Go.Proofs.YtlcphjcpoinolaaGreat
open Go.RowKit Go.Th
set_option maxRecDepth 20000
set_option maxHeartbeats 32000000 in
theorem XpM (code i:Int) (text:ByteArray) (h:Head) (f:List Item) (r:List Row) (hs:text.size≤1000000):Iso Tryz.prog 180 [.agg (Xbs 5 code i text h f r)] (fun p=>p=I (Xbt 5 code i text f.length r.length)):=by
  have hG:=Xd
  have hK:Iso Tryz.prog 113 [I 5,I 1,I 8] (fun p=>p=B true):=Xcl 5 1 8
  have tK:∀ c ∈ [I 5,I 1,I 8],Xk c:=TreeL.cons (Xe _) (TreeL.cons (Xe _) (TreeL.cons (Xe _) TreeL.nil))
  have hV:=Xbx text hs
  have tV:∀ c ∈ [S text],Xk c:=TreeL.cons (Xad _) TreeL.nil
  obtain ⟨e,he⟩:∃ e,Xbt 5 code i text f.length r.length=e:=⟨_,rfl⟩
  rw [he]
  unfold Xbt at he
  rw [if_neg (by decide)] at he
  refine ZaL ?_
  rw [if_neg (by show ¬ true=false;decide)] at he
  have hst:stF 5 code=false:=by unfold stF;rw [if_neg (by decide)]
  have hwt:wdF 5 code=true:=by unfold wdF;simp
  repeat(first|refine Zez ?_|(refine ZH ?_;intro id G hG))
  refine Zj ?_
  repeat(first|refine Zez ?_)
  refine Zj ?_
  refine Zc ?_
  refine Zb ?_
  repeat(first|(refine Zao ?_;rintro _ rfl)|refine Zet ?_)
  refine Za ?_
  refine Zaz ?_
  obtain ⟨te,hte⟩:∃ te,Xh0 text ByteArray.empty=te:=⟨_,rfl⟩
  have hSN:∀ {E:Env} {G:Xi} {op:Oper} {t ty:TypeId} {x y:Operand},op.op=.binOp .neq t x y ty→E.ev x=some (.v (.string text))→E.ev y=some (.v (.string ByteArray.empty))→OpV Tryz.prog op E G (.v (.bool (!te))):=fun h1 h2 h3=>by
    rw [← hte];exact Xb0 h1 h2 h3
  have hSE:∀ {E:Env} {G:Xi} {op:Oper} {t ty:TypeId} {x y:Operand},op.op=.binOp .eql t x y ty→E.ev x=some (.v (.string text))→E.ev y=some (.v (.string ByteArray.empty))→OpV Tryz.prog op E G (.v (.bool (te))):=fun h1 h2 h3=>by
    rw [← hte];exact Xa9 h1 h2 h3
  obtain ⟨fb,hfb⟩:∃ fb,Xiv 5 code i text f.length r.length=fb:=⟨_,rfl⟩
  rw [hfb] at he
  refine XbQ (S:=Unit) (fun _=>[(1,.ptr id 0),(3,B false),(79,B fb)]) (fun _ G=>Has G [(id,⟨Xbs 5 code i text h f r,46,true⟩)]) ?_ ?_
  · unfold Xiv at hfb
    rw [hte] at hfb
    by_cases c1:code≠0
    · rw [if_pos ⟨by decide,c1⟩] at hfb
      subst hfb
      repeat(first|refine Zes ?_|refine ZX ?_)
      exact ZN
    rw [if_neg (fun h=>c1 h.2)] at hfb
    by_cases c2:i≠0
    · rw [if_pos ⟨by decide,c2⟩] at hfb
      subst hfb
      repeat(first|refine Zes ?_|refine ZX ?_)
      exact ZN
    rw [if_neg (fun h=>c2 h.2)] at hfb
    rw [if_neg (fun h=>by rw [hwt] at h;exact absurd h.1 (by decide))] at hfb
    by_cases c4:0 < f.length
    · rw [if_pos ⟨by decide,c4⟩] at hfb
      subst hfb
      repeat(first|refine Zes ?_|refine ZX ?_)
      exact ZN
    rw [if_neg (fun h=>c4 h.2)] at hfb
    by_cases c5:0 < r.length
    · rw [decide_eq_true ⟨by decide,c5⟩] at hfb
      subst hfb
      repeat(first|refine Zes ?_)
      exact ZN
    rw [decide_eq_false (fun h=>c5 h.2)] at hfb
    subst hfb
    repeat(first|refine Zes ?_)
    exact ZN
  clear hG hfb
  rintro ⟨⟩ G hG
  cases fb with
  | true =>
    rw [if_pos rfl] at he
    repeat(first|refine Zes ?_)
    exact ZK
  | false =>
  rw [if_neg (by decide)] at he
  unfold Xd8 at he
  rw [hte] at he
  cases hv:XbH text with
  | false =>
    rw [if_pos hv] at he;rw [hv] at hV
    repeat(first|refine Zes ?_|(refine Z3 ?_;rintro _ rfl))
    exact ZK
  | true =>
  rw [if_neg (by rw [hv];decide)] at he;rw [hv] at hV
  cases te with
  | true =>
    rw [if_pos ⟨by decide,rfl⟩] at he
    repeat(first|refine Zes ?_|(refine Z3 ?_;rintro _ rfl)|refine ZbB ?_)
    exact ZK
  | false =>
  rw [if_neg (fun h=>absurd h.2 (by decide))] at he
  by_cases c6:1024 < text.size
  · rw [if_pos ⟨rfl,c6⟩] at he
    repeat(first|refine Zes ?_|(refine Z3 ?_;rintro _ rfl)|refine ZbB ?_|refine Z0 ?_)
    exact ZK
  rw [if_neg (fun h=>c6 h.2)] at he
  rw [if_neg (fun h=>by rw [hst] at h;exact absurd h.1 (by decide))] at he
  repeat(first|refine Zes ?_|(refine Z3 ?_;rintro _ rfl)|refine ZbB ?_|refine Z0 ?_)
  exact ZK
end Go.Proofs.YtlcphjcpoinolaaGreat
