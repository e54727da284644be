/- Part of the proof: the walk over the program and its laws: Qd Qe Qe1 Qe2 Qe3 Qe6 Qe7. -/
import Derived.Test.YtlcphjcpoinolaaGreatP0
import Derived.Test.YtlcphjcpoinolaaGreatP18
import Derived.Test.YtlcphjcpoinolaaGreatP16
set_option linter.unusedVariables false
namespace Go.Proofs.YtlcphjcpoinolaaGreat
open Go.RowKit Go.Th
set_option maxRecDepth 20000
def XBp (s:ByteArray) (i:Nat):Bool :=
  let o:=orK .u8 (Xd s i:Nat) 32
  let b:=Xd s i
  if 97≤o∧o≤122 then true else if i=0 then false else if 48≤b∧b≤57 then true else if b=45 then true else decide (b=95)
def Xoj (s:ByteArray):Nat→Nat→Bool
  | 0,_=>true
  | n+1,i=>if XBp s i=true then Xoj s n (i+1) else false
def Xr8 (s:ByteArray):Bool:=if s.size < 1 then false else if 40 < s.size then false else Xoj s s.size 0
set_option maxHeartbeats 32000000 in
theorem XsT (s:ByteArray):Iso Tryz.prog 177 [S s] (fun p=>p=B (Xr8 s)):=by
  have hG:=Xc
  refine Xb Tryz.func177 rfl rfl rfl ?_
  unfold Xr8
  by_cases c1:s.size < 1
  · rw [if_pos c1]
    repeat(first|refine Zd1 ?_|refine ZO ?_)
    exact ZE
  rw [if_neg c1]
  by_cases c2:40 < s.size
  · rw [if_pos c2]
    repeat(first|refine Zd1 ?_|refine ZO ?_)
    exact ZE
  rw [if_neg c2]
  repeat(first|refine Zd1 ?_|refine ZO ?_)
  refine Xg (S:=Nat) (fun i=>[(0,S s),(16,I s.size),(17,I i)]) (fun i G=>i≤s.size∧Xoj s s.size 0=Xoj s (s.size - i) i∧Has G []) (fun i=>s.size - i) 0
    (.cons rfl (.cons rfl (.cons rfl (.nil _)))) ⟨Nat.zero_le _,rfl,hG⟩ ?_
  clear hG
  rintro i G ⟨hi,hf,hG⟩
  by_cases hil:i < s.size
  · rw [show s.size - i=(s.size - (i+1))+1 from by omega,Xoj] at hf
    obtain ⟨q,hq⟩:∃ q,XBp s i=q:=⟨_,rfl⟩
    rw [hq] at hf
    unfold XBp at hq
    obtain ⟨a,ha⟩:∃ a,Xd s i=a:=⟨_,rfl⟩
    obtain ⟨o,ho⟩:∃ o,orK .u8 (a:Nat) 32=o:=⟨_,rfl⟩
    have hO:∀ {E:Env} {G:Xh} {op:Oper} {t ty:TypeId} {x y:Operand},op.op=.binOp .or t x y ty→E.ev x=some (.v (.int .u8 (a:Nat)))→E.ev y=some (.v (.int .u8 32))→OpV Tryz.prog op E G (.v (.int .u8 o)):=fun h1 h2 h3=>by
      rw [← ho];exact Xfe h1 h2 h3
    dsimp only at hq
    rw [ha,ho] at hq
    obtain ⟨lb,hlb⟩:∃ lb,decide (97≤o∧o≤122)=lb:=⟨_,rfl⟩
    obtain ⟨ob,hob⟩:∃ ob,(if 48≤a∧a≤57 then true else if a=45 then true else decide (a=95))=ob:=⟨_,rfl⟩
    have hq:(if lb=true then true else if i=0 then false else ob)=q:=by
      rw [← hq,← hlb,← hob];simp only [decide_eq_true_eq]
    refine Zc ?_
    refine Zb ?_
    repeat(first|refine Z8 ?_)
    refine Za ?_
    repeat(first|refine Zc ?_|refine Xfj rfl (by first | rfl | exact decide_eq_true (by omega)) ?_|refine Zm ?_|refine ZN ?_|refine Zh ?_)
    refine Zb ?_
    repeat(first|refine Zd5 ?_)
    refine Za ?_
    refine Zc ?_
    refine Zb ?_
    repeat(first|refine Zag ?_|refine Xj rfl rfl (by decide) (hO rfl rfl rfl) ?_|refine Zd5 ?_)
    refine Za ?_
    refine XbR (S:=Unit) (fun _=>[(0,S s),(16,I s.size),(17,I i),(3,I i),(5,B lb)]) (fun _ G=>Has G []) ?_ ?_
    · by_cases d1:97≤o
      · by_cases d2:o≤122
        · rw [decide_eq_true ⟨d1,d2⟩] at hlb;subst hlb
          repeat(first|refine Zd1 ?_)
          exact ZcK
        · rw [decide_eq_false (fun h=>d2 h.2)] at hlb;subst hlb
          repeat(first|refine Zd1 ?_)
          exact ZcK
      · rw [decide_eq_false (fun h=>d1 h.1)] at hlb;subst hlb
        repeat(first|refine Zd1 ?_)
        exact ZcK
    clear hO ho hlb hG
    rintro ⟨⟩ G hG
    refine XbR (S:=Unit) (fun _=>[(0,S s),(16,I s.size),(17,I i),(3,I i),(5,B lb),(6,B ob)]) (fun _ G=>Has G []) ?_ ?_
    · by_cases b1:48≤a
      · by_cases b2:a≤57
        · rw [if_pos ⟨b1,b2⟩] at hob;subst hob
          repeat(first|refine Zd1 ?_|refine Zag ?_)
          exact ZaB
        rw [if_neg (fun h=>b2 h.2)] at hob
        by_cases b3:a=45
        · rw [if_pos b3] at hob;subst hob
          repeat(first|refine Zd1 ?_|refine Zag ?_)
          exact ZaB
        rw [if_neg b3] at hob
        by_cases b4:a=95
        · rw [decide_eq_true b4] at hob;subst hob
          repeat(first|refine Zd1 ?_|refine Zag ?_)
          exact ZaB
        rw [decide_eq_false b4] at hob;subst hob
        repeat(first|refine Zd1 ?_|refine Zag ?_)
        exact ZaB
      rw [if_neg (fun h=>b1 h.1)] at hob
      by_cases b3:a=45
      · rw [if_pos b3] at hob;subst hob
        repeat(first|refine Zd1 ?_|refine Zag ?_)
        exact ZaB
      rw [if_neg b3] at hob
      by_cases b4:a=95
      · rw [decide_eq_true b4] at hob;subst hob
        repeat(first|refine Zd1 ?_|refine Zag ?_)
        exact ZaB
      rw [decide_eq_false b4] at hob;subst hob
      repeat(first|refine Zd1 ?_|refine Zag ?_)
      exact ZaB
    clear hob hG ha
    rintro ⟨⟩ G hG
    cases lb with
    | true =>
      rw [if_pos rfl] at hq;subst hq;rw [if_pos rfl] at hf
      repeat(first|refine Zd1 ?_|refine ZX ?_)
      exact Zbj
    | false =>
      rw [if_neg (by decide)] at hq
      by_cases i0:i=0
      · rw [if_pos i0] at hq;subst hq;rw [if_neg (by decide)] at hf
        repeat(first|refine Zd1 ?_)
        exact Zaf
      rw [if_neg i0] at hq;subst hq
      cases ob with
      | true =>
        rw [if_pos rfl] at hf
        repeat(first|refine Zd1 ?_)
        exact Zbj
      | false =>
        rw [if_neg (by decide)] at hf
        repeat(first|refine Zd1 ?_)
        exact Zaf
  rw [show s.size - i=0 from by omega,Xoj] at hf
  repeat(first|refine Zd1 ?_)
  exact Zaf
end Go.Proofs.YtlcphjcpoinolaaGreat
namespace Go.Proofs.YtlcphjcpoinolaaGreat
open Go.RowKit Go.Th
set_option maxRecDepth 20000
def stF (k code:Int):Bool:=if k=8 then decide (code=1) else false
def wdF (k code:Int):Bool:=if k=1 then true else if k=5 then true else stF k code
def nmdF (k:Int):Bool:=decide (k=6∨k=7∨k=8)
def cdF (k:Int):Bool:=decide (k=4∨k=6∨k=8)
def XwI (k code:Int):Bool:=if k=4 then inF code 1 3 else if k=6 then inF code 1 2 else if k=8 then inF code 1 4 else true
def XgJ (k code id:Int) (text:ByteArray) (nf nr:Nat):Bool :=
  if cdF k=false∧code≠0 then true else if nmdF k=false∧id≠0 then true else if wdF k code=false∧Xff text ByteArray.empty=false then true else if k≠6∧0 < nf then true else decide (k≠7∧0 < nr)
def Xc3 (k code:Int) (text:ByteArray):Int :=
  if XaZ text=false then 12 else if (k=1∨k=5)∧Xff text ByteArray.empty=true then 11 else if k=5∧1024 < text.size then 10 else if stF k code=true∧Xr8 text=false then 13 else 0
def Xbh (k code id:Int) (text:ByteArray) (nf nr:Nat):Int :=
  if inF k 1 8=false then 3 else if XwI k code=false then 3 else if XgJ k code id text nf nr=true then 15 else Xc3 k code text
abbrev Xbt (k code i:Int) (text:ByteArray) (h:Head) (f:List Item) (r:List Row):List PV:=[I k,I code,I i,S text,Xn h.props,I h.ins,I h.move,Xy h.dels,Xx h.lyrs,Xk f,X7 r]
end Go.Proofs.YtlcphjcpoinolaaGreat
namespace Go.Proofs.YtlcphjcpoinolaaGreat
open Go.RowKit Go.Th
set_option maxRecDepth 20000
set_option maxHeartbeats 32000000 in
theorem Xqf (code i:Int) (text:ByteArray) (h:Head) (f:List Item) (r:List Row) (hs:text.size≤1000000):Iso Tryz.prog 180 [.agg (Xbt 1 code i text h f r)] (fun p=>p=I (Xbh 1 code i text f.length r.length)):=by
  have hG:=Xc
  have hK:Iso Tryz.prog 113 [I 1,I 1,I 8] (fun p=>p=B true):=Xct 1 1 8
  have tK:∀ c ∈ [I 1,I 1,I 8],Xi c:=TreeL.cons (Xe _) (TreeL.cons (Xe _) (TreeL.cons (Xe _) TreeL.nil))
  have hV:=Xby text hs
  have tV:∀ c ∈ [S text],Xi c:=TreeL.cons (XX _) TreeL.nil
  obtain ⟨e,he⟩:∃ e,Xbh 1 code i text f.length r.length=e:=⟨_,rfl⟩
  rw [he]
  unfold Xbh at he
  rw [if_neg (by decide)] at he
  refine ZaO ?_
  rw [if_neg (by show ¬ true=false;decide)] at he
  have hst:stF 1 code=false:=by unfold stF;rw [if_neg (by decide)]
  have hwt:wdF 1 code=true:=by unfold wdF;simp
  repeat(first|refine Zd7 ?_|(refine ZI ?_;intro id G hG))
  refine Zh ?_
  repeat(first|refine Zd7 ?_)
  refine Zh ?_
  refine Zc ?_
  refine Zb ?_
  repeat(first|(refine Zal ?_;rintro _ rfl)|refine Zd5 ?_)
  refine Za ?_
  refine Zay ?_
  obtain ⟨te,hte⟩:∃ te,Xff text ByteArray.empty=te:=⟨_,rfl⟩
  have hSN:∀ {E:Env} {G:Xh} {op:Oper} {t ty:TypeId} {x y:Operand},op.op=.binOp .neq t x y ty→E.ev x=some (.v (.string text))→E.ev y=some (.v (.string ByteArray.empty))→OpV Tryz.prog op E G (.v (.bool (!te))):=fun h1 h2 h3=>by
    rw [← hte];exact Xbz h1 h2 h3
  have hSE:∀ {E:Env} {G:Xh} {op:Oper} {t ty:TypeId} {x y:Operand},op.op=.binOp .eql t x y ty→E.ev x=some (.v (.string text))→E.ev y=some (.v (.string ByteArray.empty))→OpV Tryz.prog op E G (.v (.bool (te))):=fun h1 h2 h3=>by
    rw [← hte];exact Xa7 h1 h2 h3
  obtain ⟨fb,hfb⟩:∃ fb,XgJ 1 code i text f.length r.length=fb:=⟨_,rfl⟩
  rw [hfb] at he
  refine XbR (S:=Unit) (fun _=>[(1,.ptr id 0),(3,B false),(79,B fb)]) (fun _ G=>Has G [(id,⟨Xbt 1 code i text h f r,46,true⟩)]) ?_ ?_
  · unfold XgJ at hfb
    rw [hte] at hfb
    by_cases c1:code≠0
    · rw [if_pos ⟨by decide,c1⟩] at hfb
      subst hfb
      repeat(first|refine Zd1 ?_|refine ZX ?_)
      exact ZM
    rw [if_neg (fun h=>c1 h.2)] at hfb
    by_cases c2:i≠0
    · rw [if_pos ⟨by decide,c2⟩] at hfb
      subst hfb
      repeat(first|refine Zd1 ?_|refine ZX ?_)
      exact ZM
    rw [if_neg (fun h=>c2 h.2)] at hfb
    rw [if_neg (fun h=>by rw [hwt] at h;exact absurd h.1 (by decide))] at hfb
    by_cases c4:0 < f.length
    · rw [if_pos ⟨by decide,c4⟩] at hfb
      subst hfb
      repeat(first|refine Zd1 ?_|refine ZX ?_)
      exact ZM
    rw [if_neg (fun h=>c4 h.2)] at hfb
    by_cases c5:0 < r.length
    · rw [decide_eq_true ⟨by decide,c5⟩] at hfb
      subst hfb
      repeat(first|refine Zd1 ?_)
      exact ZM
    rw [decide_eq_false (fun h=>c5 h.2)] at hfb
    subst hfb
    repeat(first|refine Zd1 ?_)
    exact ZM
  clear hG hfb
  rintro ⟨⟩ G hG
  cases fb with
  | true =>
    rw [if_pos rfl] at he
    repeat(first|refine Zd1 ?_)
    exact ZK
  | false =>
  rw [if_neg (by decide)] at he
  unfold Xc3 at he
  rw [hte] at he
  cases hv:XaZ text with
  | false =>
    rw [if_pos hv] at he;rw [hv] at hV
    repeat(first|refine Zd1 ?_|(refine Z2 ?_;rintro _ rfl))
    exact ZK
  | true =>
  rw [if_neg (by rw [hv];decide)] at he;rw [hv] at hV
  cases te with
  | true =>
    rw [if_pos ⟨by decide,rfl⟩] at he
    repeat(first|refine Zd1 ?_|(refine Z2 ?_;rintro _ rfl)|refine Zby ?_)
    exact ZK
  | false =>
  rw [if_neg (fun h=>absurd h.2 (by decide))] at he
  rw [if_neg (fun h=>absurd h.1 (by decide))] at he
  rw [if_neg (fun h=>by rw [hst] at h;exact absurd h.1 (by decide))] at he
  repeat(first|refine Zd1 ?_|(refine Z2 ?_;rintro _ rfl)|refine Zby ?_)
  exact ZK
end Go.Proofs.YtlcphjcpoinolaaGreat
namespace Go.Proofs.YtlcphjcpoinolaaGreat
open Go.RowKit Go.Th
set_option maxRecDepth 20000
set_option maxHeartbeats 32000000 in
theorem Xqe (code i:Int) (text:ByteArray) (h:Head) (f:List Item) (r:List Row) (hs:text.size≤1000000):Iso Tryz.prog 180 [.agg (Xbt 2 code i text h f r)] (fun p=>p=I (Xbh 2 code i text f.length r.length)):=by
  have hG:=Xc
  have hK:Iso Tryz.prog 113 [I 2,I 1,I 8] (fun p=>p=B true):=Xct 2 1 8
  have tK:∀ c ∈ [I 2,I 1,I 8],Xi c:=TreeL.cons (Xe _) (TreeL.cons (Xe _) (TreeL.cons (Xe _) TreeL.nil))
  have hV:=Xby text hs
  have tV:∀ c ∈ [S text],Xi c:=TreeL.cons (XX _) TreeL.nil
  obtain ⟨e,he⟩:∃ e,Xbh 2 code i text f.length r.length=e:=⟨_,rfl⟩
  rw [he]
  unfold Xbh at he
  rw [if_neg (by decide)] at he
  refine ZaO ?_
  rw [if_neg (by show ¬ true=false;decide)] at he
  have hst:stF 2 code=false:=by unfold stF;rw [if_neg (by decide)]
  repeat(first|refine Zd7 ?_|(refine ZI ?_;intro id G hG))
  refine Zh ?_
  repeat(first|refine Zd7 ?_)
  refine Zh ?_
  refine Zc ?_
  refine Zb ?_
  repeat(first|(refine Zal ?_;rintro _ rfl)|refine Zd5 ?_)
  refine Za ?_
  refine Zay ?_
  obtain ⟨te,hte⟩:∃ te,Xff text ByteArray.empty=te:=⟨_,rfl⟩
  have hSN:∀ {E:Env} {G:Xh} {op:Oper} {t ty:TypeId} {x y:Operand},op.op=.binOp .neq t x y ty→E.ev x=some (.v (.string text))→E.ev y=some (.v (.string ByteArray.empty))→OpV Tryz.prog op E G (.v (.bool (!te))):=fun h1 h2 h3=>by
    rw [← hte];exact Xbz h1 h2 h3
  have hSE:∀ {E:Env} {G:Xh} {op:Oper} {t ty:TypeId} {x y:Operand},op.op=.binOp .eql t x y ty→E.ev x=some (.v (.string text))→E.ev y=some (.v (.string ByteArray.empty))→OpV Tryz.prog op E G (.v (.bool (te))):=fun h1 h2 h3=>by
    rw [← hte];exact Xa7 h1 h2 h3
  obtain ⟨fb,hfb⟩:∃ fb,XgJ 2 code i text f.length r.length=fb:=⟨_,rfl⟩
  rw [hfb] at he
  refine XbR (S:=Unit) (fun _=>[(1,.ptr id 0),(3,B false),(79,B fb)]) (fun _ G=>Has G [(id,⟨Xbt 2 code i text h f r,46,true⟩)]) ?_ ?_
  · unfold XgJ at hfb
    rw [hte] at hfb
    by_cases c1:code≠0
    · rw [if_pos ⟨by decide,c1⟩] at hfb
      subst hfb
      repeat(first|refine Zd1 ?_|refine ZX ?_)
      exact ZM
    rw [if_neg (fun h=>c1 h.2)] at hfb
    by_cases c2:i≠0
    · rw [if_pos ⟨by decide,c2⟩] at hfb
      subst hfb
      repeat(first|refine Zd1 ?_|refine ZX ?_)
      exact ZM
    rw [if_neg (fun h=>c2 h.2)] at hfb
    have hwd:wdF 2 code=false:=by rfl
    cases te with
    | false =>
      rw [if_pos ⟨hwd,rfl⟩] at hfb
      subst hfb
      repeat(first|refine Zd1 ?_|refine ZX ?_|refine Z6 ?_)
      exact ZM
    | true =>
    rw [if_neg (fun h=>absurd h.2 (by decide))] at hfb
    by_cases c4:0 < f.length
    · rw [if_pos ⟨by decide,c4⟩] at hfb
      subst hfb
      repeat(first|refine Zd1 ?_|refine ZX ?_|refine Z6 ?_)
      exact ZM
    rw [if_neg (fun h=>c4 h.2)] at hfb
    by_cases c5:0 < r.length
    · rw [decide_eq_true ⟨by decide,c5⟩] at hfb
      subst hfb
      repeat(first|refine Zd1 ?_|refine Z6 ?_)
      exact ZM
    rw [decide_eq_false (fun h=>c5 h.2)] at hfb
    subst hfb
    repeat(first|refine Zd1 ?_|refine Z6 ?_)
    exact ZM
  clear hG hfb
  rintro ⟨⟩ G hG
  cases fb with
  | true =>
    rw [if_pos rfl] at he
    repeat(first|refine Zd1 ?_)
    exact ZK
  | false =>
  rw [if_neg (by decide)] at he
  unfold Xc3 at he
  rw [hte] at he
  cases hv:XaZ text with
  | false =>
    rw [if_pos hv] at he;rw [hv] at hV
    repeat(first|refine Zd1 ?_|(refine Z2 ?_;rintro _ rfl))
    exact ZK
  | true =>
  rw [if_neg (by rw [hv];decide)] at he;rw [hv] at hV
  rw [if_neg (fun h=>absurd h.1 (by decide))] at he
  rw [if_neg (fun h=>absurd h.1 (by decide))] at he
  rw [if_neg (fun h=>by rw [hst] at h;exact absurd h.1 (by decide))] at he
  repeat(first|refine Zd1 ?_|(refine Z2 ?_;rintro _ rfl))
  exact ZK
end Go.Proofs.YtlcphjcpoinolaaGreat
namespace Go.Proofs.YtlcphjcpoinolaaGreat
open Go.RowKit Go.Th
set_option maxRecDepth 20000
set_option maxHeartbeats 32000000 in
theorem Xqd (code i:Int) (text:ByteArray) (h:Head) (f:List Item) (r:List Row) (hs:text.size≤1000000):Iso Tryz.prog 180 [.agg (Xbt 3 code i text h f r)] (fun p=>p=I (Xbh 3 code i text f.length r.length)):=by
  have hG:=Xc
  have hK:Iso Tryz.prog 113 [I 3,I 1,I 8] (fun p=>p=B true):=Xct 3 1 8
  have tK:∀ c ∈ [I 3,I 1,I 8],Xi c:=TreeL.cons (Xe _) (TreeL.cons (Xe _) (TreeL.cons (Xe _) TreeL.nil))
  have hV:=Xby text hs
  have tV:∀ c ∈ [S text],Xi c:=TreeL.cons (XX _) TreeL.nil
  obtain ⟨e,he⟩:∃ e,Xbh 3 code i text f.length r.length=e:=⟨_,rfl⟩
  rw [he]
  unfold Xbh at he
  rw [if_neg (by decide)] at he
  refine ZaO ?_
  rw [if_neg (by show ¬ true=false;decide)] at he
  have hst:stF 3 code=false:=by unfold stF;rw [if_neg (by decide)]
  repeat(first|refine Zd7 ?_|(refine ZI ?_;intro id G hG))
  refine Zh ?_
  repeat(first|refine Zd7 ?_)
  refine Zh ?_
  refine Zc ?_
  refine Zb ?_
  repeat(first|(refine Zal ?_;rintro _ rfl)|refine Zd5 ?_)
  refine Za ?_
  refine Zay ?_
  obtain ⟨te,hte⟩:∃ te,Xff text ByteArray.empty=te:=⟨_,rfl⟩
  have hSN:∀ {E:Env} {G:Xh} {op:Oper} {t ty:TypeId} {x y:Operand},op.op=.binOp .neq t x y ty→E.ev x=some (.v (.string text))→E.ev y=some (.v (.string ByteArray.empty))→OpV Tryz.prog op E G (.v (.bool (!te))):=fun h1 h2 h3=>by
    rw [← hte];exact Xbz h1 h2 h3
  have hSE:∀ {E:Env} {G:Xh} {op:Oper} {t ty:TypeId} {x y:Operand},op.op=.binOp .eql t x y ty→E.ev x=some (.v (.string text))→E.ev y=some (.v (.string ByteArray.empty))→OpV Tryz.prog op E G (.v (.bool (te))):=fun h1 h2 h3=>by
    rw [← hte];exact Xa7 h1 h2 h3
  obtain ⟨fb,hfb⟩:∃ fb,XgJ 3 code i text f.length r.length=fb:=⟨_,rfl⟩
  rw [hfb] at he
  refine XbR (S:=Unit) (fun _=>[(1,.ptr id 0),(3,B false),(79,B fb)]) (fun _ G=>Has G [(id,⟨Xbt 3 code i text h f r,46,true⟩)]) ?_ ?_
  · unfold XgJ at hfb
    rw [hte] at hfb
    by_cases c1:code≠0
    · rw [if_pos ⟨by decide,c1⟩] at hfb
      subst hfb
      repeat(first|refine Zd1 ?_|refine ZX ?_)
      exact ZM
    rw [if_neg (fun h=>c1 h.2)] at hfb
    by_cases c2:i≠0
    · rw [if_pos ⟨by decide,c2⟩] at hfb
      subst hfb
      repeat(first|refine Zd1 ?_|refine ZX ?_)
      exact ZM
    rw [if_neg (fun h=>c2 h.2)] at hfb
    have hwd:wdF 3 code=false:=by rfl
    cases te with
    | false =>
      rw [if_pos ⟨hwd,rfl⟩] at hfb
      subst hfb
      repeat(first|refine Zd1 ?_|refine ZX ?_|refine Z6 ?_)
      exact ZM
    | true =>
    rw [if_neg (fun h=>absurd h.2 (by decide))] at hfb
    by_cases c4:0 < f.length
    · rw [if_pos ⟨by decide,c4⟩] at hfb
      subst hfb
      repeat(first|refine Zd1 ?_|refine ZX ?_|refine Z6 ?_)
      exact ZM
    rw [if_neg (fun h=>c4 h.2)] at hfb
    by_cases c5:0 < r.length
    · rw [decide_eq_true ⟨by decide,c5⟩] at hfb
      subst hfb
      repeat(first|refine Zd1 ?_|refine Z6 ?_)
      exact ZM
    rw [decide_eq_false (fun h=>c5 h.2)] at hfb
    subst hfb
    repeat(first|refine Zd1 ?_|refine Z6 ?_)
    exact ZM
  clear hG hfb
  rintro ⟨⟩ G hG
  cases fb with
  | true =>
    rw [if_pos rfl] at he
    repeat(first|refine Zd1 ?_)
    exact ZK
  | false =>
  rw [if_neg (by decide)] at he
  unfold Xc3 at he
  rw [hte] at he
  cases hv:XaZ text with
  | false =>
    rw [if_pos hv] at he;rw [hv] at hV
    repeat(first|refine Zd1 ?_|(refine Z2 ?_;rintro _ rfl))
    exact ZK
  | true =>
  rw [if_neg (by rw [hv];decide)] at he;rw [hv] at hV
  rw [if_neg (fun h=>absurd h.1 (by decide))] at he
  rw [if_neg (fun h=>absurd h.1 (by decide))] at he
  rw [if_neg (fun h=>by rw [hst] at h;exact absurd h.1 (by decide))] at he
  repeat(first|refine Zd1 ?_|(refine Z2 ?_;rintro _ rfl))
  exact ZK
end Go.Proofs.YtlcphjcpoinolaaGreat
namespace Go.Proofs.YtlcphjcpoinolaaGreat
open Go.RowKit Go.Th
set_option maxRecDepth 20000
set_option maxHeartbeats 32000000 in
theorem Xqa (code i:Int) (text:ByteArray) (h:Head) (f:List Item) (r:List Row) (hs:text.size≤1000000):Iso Tryz.prog 180 [.agg (Xbt 6 code i text h f r)] (fun p=>p=I (Xbh 6 code i text f.length r.length)):=by
  have hG:=Xc
  have hK:Iso Tryz.prog 113 [I 6,I 1,I 8] (fun p=>p=B true):=Xct 6 1 8
  have tK:∀ c ∈ [I 6,I 1,I 8],Xi c:=TreeL.cons (Xe _) (TreeL.cons (Xe _) (TreeL.cons (Xe _) TreeL.nil))
  have hV:=Xby text hs
  have tV:∀ c ∈ [S text],Xi c:=TreeL.cons (XX _) TreeL.nil
  obtain ⟨e,he⟩:∃ e,Xbh 6 code i text f.length r.length=e:=⟨_,rfl⟩
  rw [he]
  unfold Xbh at he
  rw [if_neg (by decide)] at he
  refine ZaO ?_
  have hC:=Xct code 1 2
  have tC:∀ c ∈ [I code,I 1,I 2],Xi c:=TreeL.cons (Xe _) (TreeL.cons (Xe _) (TreeL.cons (Xe _) TreeL.nil))
  obtain ⟨cv,hcv⟩:∃ cv,XwI 6 code=cv:=⟨_,rfl⟩
  have hcv1:inF code 1 2=cv:=by rw [← hcv];rfl
  rw [hcv] at he
  rw [hcv1] at hC
  have hst:stF 6 code=false:=by unfold stF;rw [if_neg (by decide)]
  cases cv with
  | false =>
    rw [if_pos rfl] at he
    repeat(first|refine Zd7 ?_|(refine ZI ?_;intro id G hG))
    refine Zh ?_
    repeat(first|refine Zd7 ?_|(refine ZaS ?_;rintro _ rfl))
    refine Zh ?_
    repeat(first|refine Zd1 ?_|(refine Zal ?_;rintro _ rfl))
    exact ZK
  | true =>
    rw [if_neg (by decide)] at he
    repeat(first|refine Zd7 ?_|(refine ZI ?_;intro id G hG))
    refine Zh ?_
    repeat(first|refine Zd7 ?_|(refine ZaS ?_;rintro _ rfl))
    refine Zh ?_
    refine Zc ?_
    refine Zb ?_
    repeat(first|(refine Zal ?_;rintro _ rfl)|refine Zd5 ?_)
    refine Za ?_
    refine Zay ?_
    obtain ⟨te,hte⟩:∃ te,Xff text ByteArray.empty=te:=⟨_,rfl⟩
    have hSN:∀ {E:Env} {G:Xh} {op:Oper} {t ty:TypeId} {x y:Operand},op.op=.binOp .neq t x y ty→E.ev x=some (.v (.string text))→E.ev y=some (.v (.string ByteArray.empty))→OpV Tryz.prog op E G (.v (.bool (!te))):=fun h1 h2 h3=>by
      rw [← hte];exact Xbz h1 h2 h3
    have hSE:∀ {E:Env} {G:Xh} {op:Oper} {t ty:TypeId} {x y:Operand},op.op=.binOp .eql t x y ty→E.ev x=some (.v (.string text))→E.ev y=some (.v (.string ByteArray.empty))→OpV Tryz.prog op E G (.v (.bool (te))):=fun h1 h2 h3=>by
      rw [← hte];exact Xa7 h1 h2 h3
    obtain ⟨fb,hfb⟩:∃ fb,XgJ 6 code i text f.length r.length=fb:=⟨_,rfl⟩
    rw [hfb] at he
    refine XbR (S:=Unit) (fun _=>[(1,.ptr id 0),(3,B false),(79,B fb)]) (fun _ G=>Has G [(id,⟨Xbt 6 code i text h f r,46,true⟩)]) ?_ ?_
    · unfold XgJ at hfb
      rw [hte] at hfb
      rw [if_neg (fun h=>absurd h.1 (by decide))] at hfb
      rw [if_neg (fun h=>absurd h.1 (by decide))] at hfb
      have hwd:wdF 6 code=false:=by rfl
      cases te with
      | false =>
        rw [if_pos ⟨hwd,rfl⟩] at hfb
        subst hfb
        repeat(first|refine Zd1 ?_|refine ZX ?_|refine Z6 ?_)
        exact ZM
      | true =>
      rw [if_neg (fun h=>absurd h.2 (by decide))] at hfb
      rw [if_neg (fun h=>h.1 rfl)] at hfb
      by_cases c5:0 < r.length
      · rw [decide_eq_true ⟨by decide,c5⟩] at hfb
        subst hfb
        repeat(first|refine Zd1 ?_|refine Z6 ?_)
        exact ZM
      rw [decide_eq_false (fun h=>c5 h.2)] at hfb
      subst hfb
      repeat(first|refine Zd1 ?_|refine Z6 ?_)
      exact ZM
    clear hG hfb
    rintro ⟨⟩ G hG
    cases fb with
    | true =>
      rw [if_pos rfl] at he
      repeat(first|refine Zd1 ?_)
      exact ZK
    | false =>
    rw [if_neg (by decide)] at he
    unfold Xc3 at he
    rw [hte] at he
    cases hv:XaZ text with
    | false =>
      rw [if_pos hv] at he;rw [hv] at hV
      repeat(first|refine Zd1 ?_|(refine Z2 ?_;rintro _ rfl))
      exact ZK
    | true =>
    rw [if_neg (by rw [hv];decide)] at he;rw [hv] at hV
    rw [if_neg (fun h=>absurd h.1 (by decide))] at he
    rw [if_neg (fun h=>absurd h.1 (by decide))] at he
    rw [if_neg (fun h=>by rw [hst] at h;exact absurd h.1 (by decide))] at he
    repeat(first|refine Zd1 ?_|(refine Z2 ?_;rintro _ rfl))
    exact ZK
end Go.Proofs.YtlcphjcpoinolaaGreat
namespace Go.Proofs.YtlcphjcpoinolaaGreat
open Go.RowKit Go.Th
set_option maxRecDepth 20000
set_option maxHeartbeats 32000000 in
theorem Xp9 (code i:Int) (text:ByteArray) (h:Head) (f:List Item) (r:List Row) (hs:text.size≤1000000):Iso Tryz.prog 180 [.agg (Xbt 7 code i text h f r)] (fun p=>p=I (Xbh 7 code i text f.length r.length)):=by
  have hG:=Xc
  have hK:Iso Tryz.prog 113 [I 7,I 1,I 8] (fun p=>p=B true):=Xct 7 1 8
  have tK:∀ c ∈ [I 7,I 1,I 8],Xi c:=TreeL.cons (Xe _) (TreeL.cons (Xe _) (TreeL.cons (Xe _) TreeL.nil))
  have hV:=Xby text hs
  have tV:∀ c ∈ [S text],Xi c:=TreeL.cons (XX _) TreeL.nil
  obtain ⟨e,he⟩:∃ e,Xbh 7 code i text f.length r.length=e:=⟨_,rfl⟩
  rw [he]
  unfold Xbh at he
  rw [if_neg (by decide)] at he
  refine ZaO ?_
  rw [if_neg (by show ¬ true=false;decide)] at he
  have hst:stF 7 code=false:=by unfold stF;rw [if_neg (by decide)]
  repeat(first|refine Zd7 ?_|(refine ZI ?_;intro id G hG))
  refine Zh ?_
  repeat(first|refine Zd7 ?_)
  refine Zh ?_
  refine Zc ?_
  refine Zb ?_
  repeat(first|(refine Zal ?_;rintro _ rfl)|refine Zd5 ?_)
  refine Za ?_
  refine Zay ?_
  obtain ⟨te,hte⟩:∃ te,Xff text ByteArray.empty=te:=⟨_,rfl⟩
  have hSN:∀ {E:Env} {G:Xh} {op:Oper} {t ty:TypeId} {x y:Operand},op.op=.binOp .neq t x y ty→E.ev x=some (.v (.string text))→E.ev y=some (.v (.string ByteArray.empty))→OpV Tryz.prog op E G (.v (.bool (!te))):=fun h1 h2 h3=>by
    rw [← hte];exact Xbz h1 h2 h3
  have hSE:∀ {E:Env} {G:Xh} {op:Oper} {t ty:TypeId} {x y:Operand},op.op=.binOp .eql t x y ty→E.ev x=some (.v (.string text))→E.ev y=some (.v (.string ByteArray.empty))→OpV Tryz.prog op E G (.v (.bool (te))):=fun h1 h2 h3=>by
    rw [← hte];exact Xa7 h1 h2 h3
  obtain ⟨fb,hfb⟩:∃ fb,XgJ 7 code i text f.length r.length=fb:=⟨_,rfl⟩
  rw [hfb] at he
  refine XbR (S:=Unit) (fun _=>[(1,.ptr id 0),(3,B false),(79,B fb)]) (fun _ G=>Has G [(id,⟨Xbt 7 code i text h f r,46,true⟩)]) ?_ ?_
  · unfold XgJ at hfb
    rw [hte] at hfb
    by_cases c1:code≠0
    · rw [if_pos ⟨by decide,c1⟩] at hfb
      subst hfb
      repeat(first|refine Zd1 ?_|refine ZX ?_)
      exact ZM
    rw [if_neg (fun h=>c1 h.2)] at hfb
    rw [if_neg (fun h=>absurd h.1 (by decide))] at hfb
    have hwd:wdF 7 code=false:=by rfl
    cases te with
    | false =>
      rw [if_pos ⟨hwd,rfl⟩] at hfb
      subst hfb
      repeat(first|refine Zd1 ?_|refine ZX ?_|refine Z6 ?_)
      exact ZM
    | true =>
    rw [if_neg (fun h=>absurd h.2 (by decide))] at hfb
    by_cases c4:0 < f.length
    · rw [if_pos ⟨by decide,c4⟩] at hfb
      subst hfb
      repeat(first|refine Zd1 ?_|refine ZX ?_|refine Z6 ?_)
      exact ZM
    rw [if_neg (fun h=>c4 h.2)] at hfb
    rw [decide_eq_false (fun h=>h.1 rfl)] at hfb
    subst hfb
    repeat(first|refine Zd1 ?_|refine Z6 ?_)
    exact ZM
  clear hG hfb
  rintro ⟨⟩ G hG
  cases fb with
  | true =>
    rw [if_pos rfl] at he
    repeat(first|refine Zd1 ?_)
    exact ZK
  | false =>
  rw [if_neg (by decide)] at he
  unfold Xc3 at he
  rw [hte] at he
  cases hv:XaZ text with
  | false =>
    rw [if_pos hv] at he;rw [hv] at hV
    repeat(first|refine Zd1 ?_|(refine Z2 ?_;rintro _ rfl))
    exact ZK
  | true =>
  rw [if_neg (by rw [hv];decide)] at he;rw [hv] at hV
  rw [if_neg (fun h=>absurd h.1 (by decide))] at he
  rw [if_neg (fun h=>absurd h.1 (by decide))] at he
  rw [if_neg (fun h=>by rw [hst] at h;exact absurd h.1 (by decide))] at he
  repeat(first|refine Zd1 ?_|(refine Z2 ?_;rintro _ rfl))
  exact ZK
end Go.Proofs.YtlcphjcpoinolaaGreat
