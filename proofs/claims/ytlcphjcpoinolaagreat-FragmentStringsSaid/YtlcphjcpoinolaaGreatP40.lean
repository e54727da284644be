/- Part of the proof: the walk over the program and its laws: Qe5 Qe9. -/
import Derived.Test.YtlcphjcpoinolaaGreatP0
import Derived.Test.YtlcphjcpoinolaaGreatP36
import Derived.Test.YtlcphjcpoinolaaGreatP38
import Derived.Test.YtlcphjcpoinolaaGreatP39
set_option linter.unusedVariables false
namespace Go.Proofs.YtlcphjcpoinolaaGreat
open Go.RowKit Go.Th
set_option maxRecDepth 20000
set_option maxHeartbeats 32000000 in
theorem Xqb (code i:Int) (text:ByteArray) (h:Head) (f:List Item) (r:List Row) (hs:text.size≤1000000):Iso Tryz.prog 180 [.agg (Xbt 5 code i text h f r)] (fun p=>p=I (Xbh 5 code i text f.length r.length)):=by
  have hG:=Xc
  have hK:Iso Tryz.prog 113 [I 5,I 1,I 8] (fun p=>p=B true):=Xct 5 1 8
  have tK:∀ c ∈ [I 5,I 1,I 8],Xi c:=TreeL.cons (Xe _) (TreeL.cons (Xe _) (TreeL.cons (Xe _) TreeL.nil))
  have hV:=Xby text hs
  have tV:∀ c ∈ [S text],Xi c:=TreeL.cons (XX _) TreeL.nil
  obtain ⟨e,he⟩:∃ e,Xbh 5 code i text f.length r.length=e:=⟨_,rfl⟩
  rw [he]
  unfold Xbh at he
  rw [if_neg (by decide)] at he
  refine ZaO ?_
  rw [if_neg (by show ¬ true=false;decide)] at he
  have hst:stF 5 code=false:=by unfold stF;rw [if_neg (by decide)]
  have hwt:wdF 5 code=true:=by unfold wdF;simp
  repeat(first|refine Zd7 ?_|(refine ZI ?_;intro id G hG))
  refine Zh ?_
  repeat(first|refine Zd7 ?_)
  refine Zh ?_
  refine Zc ?_
  refine Zb ?_
  repeat(first|(refine Zal ?_;rintro _ rfl)|refine Zd5 ?_)
  refine Za ?_
  refine Zay ?_
  obtain ⟨te,hte⟩:∃ te,Xff text ByteArray.empty=te:=⟨_,rfl⟩
  have hSN:∀ {E:Env} {G:Xh} {op:Oper} {t ty:TypeId} {x y:Operand},op.op=.binOp .neq t x y ty→E.ev x=some (.v (.string text))→E.ev y=some (.v (.string ByteArray.empty))→OpV Tryz.prog op E G (.v (.bool (!te))):=fun h1 h2 h3=>by
    rw [← hte];exact Xbz h1 h2 h3
  have hSE:∀ {E:Env} {G:Xh} {op:Oper} {t ty:TypeId} {x y:Operand},op.op=.binOp .eql t x y ty→E.ev x=some (.v (.string text))→E.ev y=some (.v (.string ByteArray.empty))→OpV Tryz.prog op E G (.v (.bool (te))):=fun h1 h2 h3=>by
    rw [← hte];exact Xa7 h1 h2 h3
  obtain ⟨fb,hfb⟩:∃ fb,XgJ 5 code i text f.length r.length=fb:=⟨_,rfl⟩
  rw [hfb] at he
  refine XbR (S:=Unit) (fun _=>[(1,.ptr id 0),(3,B false),(79,B fb)]) (fun _ G=>Has G [(id,⟨Xbt 5 code i text h f r,46,true⟩)]) ?_ ?_
  · unfold XgJ at hfb
    rw [hte] at hfb
    by_cases c1:code≠0
    · rw [if_pos ⟨by decide,c1⟩] at hfb
      subst hfb
      repeat(first|refine Zd1 ?_|refine ZX ?_)
      exact ZM
    rw [if_neg (fun h=>c1 h.2)] at hfb
    by_cases c2:i≠0
    · rw [if_pos ⟨by decide,c2⟩] at hfb
      subst hfb
      repeat(first|refine Zd1 ?_|refine ZX ?_)
      exact ZM
    rw [if_neg (fun h=>c2 h.2)] at hfb
    rw [if_neg (fun h=>by rw [hwt] at h;exact absurd h.1 (by decide))] at hfb
    by_cases c4:0 < f.length
    · rw [if_pos ⟨by decide,c4⟩] at hfb
      subst hfb
      repeat(first|refine Zd1 ?_|refine ZX ?_)
      exact ZM
    rw [if_neg (fun h=>c4 h.2)] at hfb
    by_cases c5:0 < r.length
    · rw [decide_eq_true ⟨by decide,c5⟩] at hfb
      subst hfb
      repeat(first|refine Zd1 ?_)
      exact ZM
    rw [decide_eq_false (fun h=>c5 h.2)] at hfb
    subst hfb
    repeat(first|refine Zd1 ?_)
    exact ZM
  clear hG hfb
  rintro ⟨⟩ G hG
  cases fb with
  | true =>
    rw [if_pos rfl] at he
    repeat(first|refine Zd1 ?_)
    exact ZK
  | false =>
  rw [if_neg (by decide)] at he
  unfold Xc3 at he
  rw [hte] at he
  cases hv:XaZ text with
  | false =>
    rw [if_pos hv] at he;rw [hv] at hV
    repeat(first|refine Zd1 ?_|(refine Z2 ?_;rintro _ rfl))
    exact ZK
  | true =>
  rw [if_neg (by rw [hv];decide)] at he;rw [hv] at hV
  cases te with
  | true =>
    rw [if_pos ⟨by decide,rfl⟩] at he
    repeat(first|refine Zd1 ?_|(refine Z2 ?_;rintro _ rfl)|refine Zby ?_)
    exact ZK
  | false =>
  rw [if_neg (fun h=>absurd h.2 (by decide))] at he
  by_cases c6:1024 < text.size
  · rw [if_pos ⟨rfl,c6⟩] at he
    repeat(first|refine Zd1 ?_|(refine Z2 ?_;rintro _ rfl)|refine Zby ?_|refine ZO ?_)
    exact ZK
  rw [if_neg (fun h=>c6 h.2)] at he
  rw [if_neg (fun h=>by rw [hst] at h;exact absurd h.1 (by decide))] at he
  repeat(first|refine Zd1 ?_|(refine Z2 ?_;rintro _ rfl)|refine Zby ?_|refine ZO ?_)
  exact ZK
end Go.Proofs.YtlcphjcpoinolaaGreat
namespace Go.Proofs.YtlcphjcpoinolaaGreat
open Go.RowKit Go.Th
set_option maxRecDepth 20000
set_option maxHeartbeats 32000000 in
theorem Xp7 (k code i:Int) (text:ByteArray) (h:Head) (f:List Item) (r:List Row) (h1:k≠1) (h2:k≠2) (h3:k≠3) (h4:k≠4) (h5:k≠5) (h6:k≠6) (h7:k≠7) (h8:k≠8) :
    Iso Tryz.prog 180 [.agg (Xbt k code i text h f r)] (fun p=>p=I (Xbh k code i text f.length r.length)):=by
  have hG:=Xc
  have hin:inF k 1 8=false:=decide_eq_false (by omega)
  have hK:Iso Tryz.prog 113 [I k,I 1,I 8] (fun p=>p=B false):=hin ▸ Xct k 1 8
  have tK:∀ c ∈ [I k,I 1,I 8],Xi c:=TreeL.cons (Xe _) (TreeL.cons (Xe _) (TreeL.cons (Xe _) TreeL.nil))
  refine ZaO ?_
  unfold Xbh
  rw [if_pos hin]
  clear hin
  repeat(first|refine Zd1 ?_|(refine Zal ?_;rintro _ rfl)|(refine ZI ?_;intro id G hG))
  exact ZE
theorem Xsh (k code i:Int) (text:ByteArray) (h:Head) (f:List Item) (r:List Row) (hs:text.size≤1000000):Iso Tryz.prog 180 [.agg (Xbt k code i text h f r)] (fun p=>p=I (Xbh k code i text f.length r.length)):=by
  by_cases h1:k=1
  · subst h1;exact Xqf code i text h f r hs
  by_cases h2:k=2
  · subst h2;exact Xqe code i text h f r hs
  by_cases h3:k=3
  · subst h3;exact Xqd code i text h f r hs
  by_cases h4:k=4
  · subst h4;exact Xqc code i text h f r hs
  by_cases h5:k=5
  · subst h5;exact Xqb code i text h f r hs
  by_cases h6:k=6
  · subst h6;exact Xqa code i text h f r hs
  by_cases h7:k=7
  · subst h7;exact Xp9 code i text h f r hs
  by_cases h8:k=8
  · subst h8;exact Xp8 code i text h f r hs
  exact Xp7 k code i text h f r h1 h2 h3 h4 h5 h6 h7 h8
end Go.Proofs.YtlcphjcpoinolaaGreat
