/- Part of the proof: the walk over the program and its laws: Qe4. -/
import Derived.Test.YtlcphjcpoinolaaGreatP0
import Derived.Test.YtlcphjcpoinolaaGreatP36
set_option linter.unusedVariables false
namespace Go.Proofs.YtlcphjcpoinolaaGreat
open Go.RowKit Go.Th
set_option maxRecDepth 20000
set_option maxHeartbeats 32000000 in
theorem Xqc (code i:Int) (text:ByteArray) (h:Head) (f:List Item) (r:List Row) (hs:text.size≤1000000):Iso Tryz.prog 180 [.agg (Xbt 4 code i text h f r)] (fun p=>p=I (Xbh 4 code i text f.length r.length)):=by
  have hG:=Xc
  have hK:Iso Tryz.prog 113 [I 4,I 1,I 8] (fun p=>p=B true):=Xct 4 1 8
  have tK:∀ c ∈ [I 4,I 1,I 8],Xi c:=TreeL.cons (Xe _) (TreeL.cons (Xe _) (TreeL.cons (Xe _) TreeL.nil))
  have hV:=Xby text hs
  have tV:∀ c ∈ [S text],Xi c:=TreeL.cons (XX _) TreeL.nil
  obtain ⟨e,he⟩:∃ e,Xbh 4 code i text f.length r.length=e:=⟨_,rfl⟩
  rw [he]
  unfold Xbh at he
  rw [if_neg (by decide)] at he
  refine ZaO ?_
  have hC:=Xct code 1 3
  have tC:∀ c ∈ [I code,I 1,I 3],Xi c:=TreeL.cons (Xe _) (TreeL.cons (Xe _) (TreeL.cons (Xe _) TreeL.nil))
  obtain ⟨cv,hcv⟩:∃ cv,XwI 4 code=cv:=⟨_,rfl⟩
  have hcv1:inF code 1 3=cv:=by rw [← hcv];rfl
  rw [hcv] at he
  rw [hcv1] at hC
  have hst:stF 4 code=false:=by unfold stF;rw [if_neg (by decide)]
  cases cv with
  | false =>
    rw [if_pos rfl] at he
    repeat(first|refine Zd7 ?_|(refine ZI ?_;intro id G hG))
    refine Zh ?_
    repeat(first|refine Zd7 ?_|(refine ZaS ?_;rintro _ rfl))
    refine Zh ?_
    repeat(first|refine Zd1 ?_|(refine Zal ?_;rintro _ rfl))
    exact ZK
  | true =>
    rw [if_neg (by decide)] at he
    repeat(first|refine Zd7 ?_|(refine ZI ?_;intro id G hG))
    refine Zh ?_
    repeat(first|refine Zd7 ?_|(refine ZaS ?_;rintro _ rfl))
    refine Zh ?_
    refine Zc ?_
    refine Zb ?_
    repeat(first|(refine Zal ?_;rintro _ rfl)|refine Zd5 ?_)
    refine Za ?_
    refine Zay ?_
    obtain ⟨te,hte⟩:∃ te,Xff text ByteArray.empty=te:=⟨_,rfl⟩
    have hSN:∀ {E:Env} {G:Xh} {op:Oper} {t ty:TypeId} {x y:Operand},op.op=.binOp .neq t x y ty→E.ev x=some (.v (.string text))→E.ev y=some (.v (.string ByteArray.empty))→OpV Tryz.prog op E G (.v (.bool (!te))):=fun h1 h2 h3=>by
      rw [← hte];exact Xbz h1 h2 h3
    have hSE:∀ {E:Env} {G:Xh} {op:Oper} {t ty:TypeId} {x y:Operand},op.op=.binOp .eql t x y ty→E.ev x=some (.v (.string text))→E.ev y=some (.v (.string ByteArray.empty))→OpV Tryz.prog op E G (.v (.bool (te))):=fun h1 h2 h3=>by
      rw [← hte];exact Xa7 h1 h2 h3
    obtain ⟨fb,hfb⟩:∃ fb,XgJ 4 code i text f.length r.length=fb:=⟨_,rfl⟩
    rw [hfb] at he
    refine XbR (S:=Unit) (fun _=>[(1,.ptr id 0),(3,B false),(79,B fb)]) (fun _ G=>Has G [(id,⟨Xbt 4 code i text h f r,46,true⟩)]) ?_ ?_
    · unfold XgJ at hfb
      rw [hte] at hfb
      rw [if_neg (fun h=>absurd h.1 (by decide))] at hfb
      by_cases c2:i≠0
      · rw [if_pos ⟨by decide,c2⟩] at hfb
        subst hfb
        repeat(first|refine Zd1 ?_|refine ZX ?_)
        exact ZM
      rw [if_neg (fun h=>c2 h.2)] at hfb
      have hwd:wdF 4 code=false:=by rfl
      cases te with
      | false =>
        rw [if_pos ⟨hwd,rfl⟩] at hfb
        subst hfb
        repeat(first|refine Zd1 ?_|refine ZX ?_|refine Z6 ?_)
        exact ZM
      | true =>
      rw [if_neg (fun h=>absurd h.2 (by decide))] at hfb
      by_cases c4:0 < f.length
      · rw [if_pos ⟨by decide,c4⟩] at hfb
        subst hfb
        repeat(first|refine Zd1 ?_|refine ZX ?_|refine Z6 ?_)
        exact ZM
      rw [if_neg (fun h=>c4 h.2)] at hfb
      by_cases c5:0 < r.length
      · rw [decide_eq_true ⟨by decide,c5⟩] at hfb
        subst hfb
        repeat(first|refine Zd1 ?_|refine Z6 ?_)
        exact ZM
      rw [decide_eq_false (fun h=>c5 h.2)] at hfb
      subst hfb
      repeat(first|refine Zd1 ?_|refine Z6 ?_)
      exact ZM
    clear hG hfb
    rintro ⟨⟩ G hG
    cases fb with
    | true =>
      rw [if_pos rfl] at he
      repeat(first|refine Zd1 ?_)
      exact ZK
    | false =>
    rw [if_neg (by decide)] at he
    unfold Xc3 at he
    rw [hte] at he
    cases hv:XaZ text with
    | false =>
      rw [if_pos hv] at he;rw [hv] at hV
      repeat(first|refine Zd1 ?_|(refine Z2 ?_;rintro _ rfl))
      exact ZK
    | true =>
    rw [if_neg (by rw [hv];decide)] at he;rw [hv] at hV
    rw [if_neg (fun h=>absurd h.1 (by decide))] at he
    rw [if_neg (fun h=>absurd h.1 (by decide))] at he
    rw [if_neg (fun h=>by rw [hst] at h;exact absurd h.1 (by decide))] at he
    repeat(first|refine Zd1 ?_|(refine Z2 ?_;rintro _ rfl))
    exact ZK
end Go.Proofs.YtlcphjcpoinolaaGreat
