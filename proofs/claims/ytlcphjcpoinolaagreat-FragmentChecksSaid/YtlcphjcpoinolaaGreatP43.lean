/- Part of the proof: the walk over the program and its laws: Lt Lu. -/
import Derived.Test.YtlcphjcpoinolaaGreatP0
import Derived.Test.YtlcphjcpoinolaaGreatP31
import Derived.Test.YtlcphjcpoinolaaGreatP2
set_option linter.unusedVariables false
namespace Go.Proofs.YtlcphjcpoinolaaGreat
open Go.RowKit Go.Th
set_option maxRecDepth 20000
set_option maxHeartbeats 16000000 in
theorem Xmy (c:Nat) (s:ByteArray) (a pl e:Int) (lit:List UInt8) (ps:List Pt) (b:Nat) (plain:Bool) (hb:48≤b∧b < 256) (hpl0:0≤pl∧pl≤1000) (hl:lit.length≤1000) (hp:ps.length≤900) (G:Xi) (K:List (Nat × Blk)) (hS:ScH c s a lit ps pl e K G) :
    AC Tryz.prog 243 [.ptr c 0,.v (.int .u8 (b:Nat)),B plain] G (fun p G'=>p=.tup []∧ScH c s a [] (XbW lit ps++[⟨.empty,(b:Int) - 48,plain⟩]) (pl+1) e K G'):=by
  have hw:IntKind.u8.wrap ((b:Int) - 48)=(b:Int) - 48:=by
    rw [IntKind.wrap_u8];omega
  have hw2:IntKind.i64.wrap ((b:Int) - 48)=(b:Int) - 48:=by
    rw [IntKind.wrap_i64];omega
  have hfl:(XbW lit ps).length≤901:=by
    unfold XbW
    split
    · omega
    · rw [List.length_append];simp only [List.length_cons,List.length_nil];omega
  refine Xv Tryz.func243 rfl rfl rfl ?_
  refine Zc ?_
  refine Zb ?_
  repeat(first|refine Ze ?_)
  refine X5 rfl rfl rfl rfl rfl rfl (by decide) (Xi4 c s a pl e lit ps hl (by omega) _ K hS) ?_
  clear hS
  rintro _ G ⟨rfl,hS⟩
  generalize XbW lit ps=qs at hS hfl ⊢
  refine Za ?_
  refine Xe5 hS ?_
  clear hS
  intro G ad lo po had hG
  have hpl:=XF Xfl qs
  unfold scB at hG
  repeat(first|refine Zes ?_|refine ZJ ?_|refine Xn rfl rfl (by decide) (XsG rfl rfl rfl hw) ?_|refine Xn rfl rfl (by decide) (XaS rfl rfl hw2) ?_|(refine Xau 3 hG rfl rfl (by decide) rfl rfl rfl rfl rfl rfl hpl rfl (hG.cellsOf (k:=0) rfl rfl) rfl (by omega) (by omega) ?_;intro o2 G hG)|refine ZL ?_|refine Zaj ?_|refine ZS ?_|(refine ZaP ?_;intro G hG)|(refine ZO ?_;intro id G hG))
  refine Xbr rfl (.inl rfl) ⟨rfl,.of (lo:=lo) (po:=o2) had ?_⟩
  rw [List.length_append,List.flatMap_append]
  exact hG.tail
def Xn4 (s:ByteArray) (i:Int):Bool:=if i < s.size then (if 49≤XE s i.toNat then decide (XE s i.toNat≤57) else false) else false
set_option maxHeartbeats 16000000 in
theorem XmV (c:Nat) (s:ByteArray) (a pl e i:Int) (ad bf pa:PV) (hi:0≤i) (G:Xi) (K:List (Nat × Blk)) (hG:Has G ((c,scB s a ad bf pa pl e)::K)) :
    AC Tryz.prog 242 [.ptr c 0,I i] G (fun p G'=>p=B (Xn4 s i)∧G'=G):=by
  unfold Xn4
  unfold scB at hG
  refine Xv Tryz.func242 rfl rfl rfl ?_
  by_cases h1:i < s.size
  · rw [if_pos h1]
    obtain ⟨b,hb⟩:∃ b,XE s i.toNat=b:=⟨_,rfl⟩
    rw [hb]
    by_cases h2:49≤b
    · rw [if_pos h2]
      have hdec:PV.v (.bool (decide ((b:Int)≤57)))=B (decide (b≤57)):=by
        show PV.v _=PV.v _
        congr 2
        exact decide_eq_decide.2 (by omega)
      repeat(first|refine Zes ?_|refine Xn rfl rfl (by decide) (Xb1 b rfl rfl rfl (by omega) (by exact hb)) ?_|refine Xn rfl rfl (by decide) (OpV.same (XP (op:=.leq) rfl rfl rfl rfl) hdec) ?_|refine Z0 ?_|refine ZL ?_)
      exact Zai
    · rw [if_neg h2]
      repeat(first|refine Zes ?_|refine Xn rfl rfl (by decide) (Xb1 b rfl rfl rfl (by omega) (by exact hb)) ?_|refine Z0 ?_|refine ZL ?_)
      exact Zai
  · rw [if_neg h1]
    repeat(first|refine Zes ?_|refine Z0 ?_|refine ZL ?_)
    exact Zai
def Xfc (t p:ByteArray):Bool:=if p.size≤t.size then Xh0 (t.extract 0 p.size) p else false
set_option maxHeartbeats 8000000 in
theorem XhH (t p:ByteArray):Iso Tryz.prog 246 [S t,S p] (fun q=>q=B (Xfc t p)):=by
  have hG:=Xd
  unfold Xfc
  refine Xb Tryz.func246 rfl rfl rfl ?_
  by_cases h:p.size≤t.size
  · rw [if_pos h]
    repeat(first|refine Zes ?_|refine Xn rfl rfl (by decide) (Xiy (kl:=.i64) (kh:=.i64) (l:=0) (h:=p.size) rfl rfl rfl rfl ⟨by omega,by omega⟩) ?_|refine Z0 ?_|refine Xn rfl rfl (by decide) (Xa9 rfl rfl rfl) ?_)
    exact ZB
  · rw [if_neg h]
    repeat(first|refine Zes ?_|refine Z0 ?_)
    exact ZB
theorem Xfh (t p:ByteArray):Iso Tryz.prog 241 [S t,S p] (fun q=>q=B (Xfc t p)):=by
  have hG:=Xd
  refine Xb Tryz.func241 rfl rfl rfl ?_
  repeat(first|refine Zes ?_|(refine Xr rfl rfl rfl rfl rfl rfl (by decide) (XhH t p) (TreeL.cons (Xad _) (TreeL.cons (Xad _) TreeL.nil)) ?_;rintro _ rfl))
  exact ZB
end Go.Proofs.YtlcphjcpoinolaaGreat
namespace Go.Proofs.YtlcphjcpoinolaaGreat
open Go.RowKit Go.Th
set_option maxRecDepth 20000
structure Sn where
  a:Nat
  lit:List UInt8
  ps:List Pt
  pl:Int
  e:Int
def SnH (c:Nat) (s:ByteArray) (x:Sn) (K:List (Nat × Blk)) (G:Xi):Prop:=ScH c s x.a x.lit x.ps x.pl x.e K G
def XAZ (s:ByteArray) (i:Nat):Int:=(XE s i:Int) - 48
def Xj5 (s:ByteArray) (x:Sn):Sn :=
  if Xfc (s.extract x.a s.size) ⟨#[37,37]⟩=true then ⟨x.a+2,x.lit++[37],x.ps,x.pl,x.e⟩ else
  if Xn4 s ((x.a:Int)+1)=true then ⟨x.a+2,[],XbW x.lit x.ps++[⟨.empty,XAZ s (x.a+1),false⟩],x.pl+1,x.e⟩ else
  if Xfc (s.extract x.a s.size) ⟨#[37,100]⟩=true then
    (if Xn4 s ((x.a:Int)+2)=true then ⟨x.a+3,[],XbW x.lit x.ps++[⟨.empty,XAZ s (x.a+2),true⟩],x.pl+1,x.e⟩ else ⟨x.a,x.lit,x.ps,x.pl,14⟩) else
  ⟨x.a,x.lit,x.ps,x.pl,14⟩
theorem Xtg {s:ByteArray} {i:Nat} (h:Xn4 s i=true):i < s.size∧49≤XE s i∧XE s i≤57:=by
  unfold Xn4 at h
  split at h
  · split at h
    · exact ⟨by omega,by simpa using by assumption,by simpa using h⟩
    · exact absurd h (by decide)
  · exact absurd h (by decide)
section
variable {P:Program} {n:Nat} {l:List Oper} {acc:List PV} {Hs:Nat→Xi} {i:Nat} {o:Oper} {os:List Oper} {p:PV} {E:Env} {d:Nat} {K:Env→Prop}
theorem XBP {H:Xi} {j:Nat} {want:Bool} {oj:Oper} (h:OpK P o (XK o E) H p H) (hg:o.guard=some (j,want)) (hji:j < i) (hv:acc[i - 1 - j]?=some (.v (.bool want))) (hj:l[j]?=some oj) (hjd:oj.dst.isSome=true) (hd:o.dst=some d) (hn:d < n)
    (k:DY P n l (fun _=>H) (i+1) os (p::acc) ((d,p)::E) K):DY P n l (fun _=>H) i (o::os) acc E K:=by
  refine ⟨p,⟨fun d' hd'=>by rw [hd] at hd';cases hd';exact hn,?_⟩,by rw [hd];exact k⟩
  rw [hg]
  exact ⟨want,oj,hji,hv,hj,hjd,fun _ _ _ _=>h,fun e=>absurd rfl e⟩
end
theorem pct1 {s:ByteArray} {x:Sn} (h:true=Xfc (s.extract x.a s.size) ⟨#[37,37]⟩):Xj5 s x=⟨x.a+2,x.lit++[37],x.ps,x.pl,x.e⟩:=by
  unfold Xj5;rw [← h];rfl
theorem pct2 {s:ByteArray} {x:Sn} (h:false=Xfc (s.extract x.a s.size) ⟨#[37,37]⟩) (h2:true=Xn4 s ((x.a:Int)+1)):Xj5 s x=⟨x.a+2,[],XbW x.lit x.ps++[⟨.empty,XAZ s (x.a+1),false⟩],x.pl+1,x.e⟩:=by
  unfold Xj5;rw [← h,← h2];rfl
theorem pct3 {s:ByteArray} {x:Sn} (h:false=Xfc (s.extract x.a s.size) ⟨#[37,37]⟩) (h2:false=Xn4 s ((x.a:Int)+1)) (h3:true=Xfc (s.extract x.a s.size) ⟨#[37,100]⟩) (h4:true=Xn4 s ((x.a:Int)+2)):Xj5 s x=⟨x.a+3,[],XbW x.lit x.ps++[⟨.empty,XAZ s (x.a+2),true⟩],x.pl+1,x.e⟩:=by
  unfold Xj5;rw [← h,← h2,← h3,← h4];rfl
theorem pct4 {s:ByteArray} {x:Sn} (h:false=Xfc (s.extract x.a s.size) ⟨#[37,37]⟩) (h2:false=Xn4 s ((x.a:Int)+1)) (h3:false=Xfc (s.extract x.a s.size) ⟨#[37,100]⟩∨false=Xn4 s ((x.a:Int)+2)):Xj5 s x=⟨x.a,x.lit,x.ps,x.pl,14⟩:=by
  unfold Xj5;rw [← h,← h2]
  rcases h3 with h3 | h3
  · rw [← h3];rfl
  · rw [← h3]
    cases Xfc (s.extract x.a s.size) ⟨#[37,100]⟩ <;> rfl
set_option maxHeartbeats 32000000 in
theorem Xnx (c:Nat) (s:ByteArray) (x:Sn) (ha:x.a < s.size) (hs:s.size≤64) (hpl:0≤x.pl∧x.pl≤900) (hl:x.lit.length≤900) (hp:x.ps.length≤800) (G:Xi) (K:List (Nat × Blk)) (hS:SnH c s x K G) :
    AC Tryz.prog 238 [.ptr c 0] G (fun p G'=>p=.tup []∧SnH c s (Xj5 s x) K G'):=by
  obtain ⟨Y,hY⟩:∃ Y,Y=Xj5 s x:=⟨_,rfl⟩
  rw [← hY]
  obtain ⟨a,lit,ps,pl,e⟩:=x
  unfold SnH at hS ⊢
  simp only at ha hpl hl hp hS
  refine Xv Tryz.func238 rfl rfl rfl ?_
  refine Xe5 hS ?_
  clear hS
  intro G ad lo po had hG
  have k1:=Xfh (s.extract a s.size) ⟨#[37,37]⟩
  have k2:=Xfh (s.extract a s.size) ⟨#[37,100]⟩
  have d1:=XmV c s a pl e ((a:Int)+1) ad (.sl lo 0 lit.length 1) (.sl po 0 ps.length 3) (by omega) G _ hG
  have d2:=XmV c s a pl e ((a:Int)+2) ad (.sl lo 0 lit.length 1) (.sl po 0 ps.length 3) (by omega) G _ hG
  obtain ⟨b1,eb1⟩:∃ b,b=Xfc (s.extract a s.size) ⟨#[37,37]⟩:=⟨_,rfl⟩
  obtain ⟨b2,eb2⟩:∃ b,b=Xfc (s.extract a s.size) ⟨#[37,100]⟩:=⟨_,rfl⟩
  obtain ⟨b3,eb3⟩:∃ b,b=Xn4 s ((a:Int)+1):=⟨_,rfl⟩
  obtain ⟨b4,eb4⟩:∃ b,b=Xn4 s ((a:Int)+2):=⟨_,rfl⟩
  rw [← eb1] at k1
  rw [← eb2] at k2
  rw [← eb3] at d1
  rw [← eb4] at d2
  refine Zj ?_
  refine Zc ?_
  refine ZD ?_
  unfold scB at hG
  repeat(first|refine Z4 ?_|refine ZcY ?_|refine Xw8 rfl rfl rfl (by decide) (Iso.K rfl rfl rfl rfl k1 (TreeL.cons (Xad _) (TreeL.cons (Xad _) TreeL.nil))) ?_|refine Zeu ?_)
  clear k1
  cases b1
  · repeat(first|refine Zez ?_|refine XA8 rfl rfl (by decide) (AC.K rfl rfl rfl rfl d1) ?_|refine Zy ?_|refine ZL ?_)
    clear d1
    cases b3
    · repeat(first|refine Zez ?_)
      refine ZD ?_
      cases b2
      · repeat(first|refine Z4 ?_|refine ZcY ?_|refine Zd7 ?_|refine Zeu ?_)
        clear k2 d2
        repeat(first|refine ZJ ?_|refine Zes ?_|refine ZL ?_|(refine Zz ?_;intro G hG)|refine Z1 ?_)
        rw [pct4 (x:=⟨a,lit,ps,pl,e⟩) eb1 eb3 (.inl eb2)] at hY
        subst hY
        exact ZaN
      · repeat(first|refine Z4 ?_|refine ZcY ?_|refine Zd7 ?_|refine ZU ?_|refine XBP (AC.K rfl rfl rfl rfl d2) rfl (by decide) rfl rfl rfl rfl (by decide) ?_|refine Y_q rfl rfl rfl (by decide) (Xa2 rfl rfl rfl rfl) ?_|refine Zeu ?_|refine Xfn (Xe4 rfl rfl rfl (by omega)) rfl (by decide) rfl rfl rfl rfl (by decide) ?_|refine ZaU ?_)
        clear k2 d2
        cases b4
        · repeat(first|refine ZJ ?_|refine Zes ?_|refine ZL ?_|(refine Zz ?_;intro G hG)|refine Z1 ?_)
          rw [pct4 (x:=⟨a,lit,ps,pl,e⟩) eb1 eb3 (.inr eb4)] at hY
          subst hY
          exact ZaN
        · obtain ⟨h1,h2,h3⟩:=Xtg (i:=a+2) eb4.symm
          have hS0:ScH c s a lit ps pl e K G:=.of had hG
          have hpc:=fun H (h:H=G)=>Xmy c s a pl e lit ps (XE s (a+2)) true (by omega) (by omega) (by omega) (by omega) H K (h ▸ hS0)
          have hb:XE s ((a:Int)+2).toNat=XE s (a+2):=congrArg (XE s) (by omega)
          repeat(first|refine Zez ?_)
          refine Xoq [11] [fun H=>ScH c s a [] (XbW lit ps++[⟨.empty,(XE s (a+2):Int) - 48,true⟩]) (pl+1) e K H] _ mixed (by decide +kernel) (N:=1) (by decide +kernel) rfl ?_
          repeat(first|refine ZcZ ?_|refine P_v rfl rfl rfl rfl (by decide) (fun _=>Xb1 (XE s (a+2)) rfl rfl rfl (by omega) (by exact hb)) ?_|refine Zd8 ?_|refine ZeA ?_|refine P_v rfl rfl rfl rfl (by decide) (fun _=>Xe4 rfl rfl rfl (by omega)) ?_)
          clear hG hS0 hpc
          intro G hS
          refine Xe5 hS ?_
          clear hS
          intro G ad lo po had hG
          unfold scB at hG
          repeat(first|refine ZJ ?_|refine Zes ?_|refine ZL ?_|(refine Zz ?_;intro G hG)|refine Z1 ?_)
          rw [pct3 (x:=⟨a,lit,ps,pl,e⟩) eb1 eb3 eb2 eb4] at hY
          subst hY
          exact ZaN
    · obtain ⟨h1,h2,h3⟩:=Xtg (i:=a+1) eb3.symm
      have hS0:ScH c s a lit ps pl e K G:=.of had hG
      have hpc:=fun H (h:H=G)=>Xmy c s a pl e lit ps (XE s (a+1)) false (by omega) (by omega) (by omega) (by omega) H K (h ▸ hS0)
      have hb:XE s ((a:Int)+1).toNat=XE s (a+1):=congrArg (XE s) (by omega)
      clear k2 d2
      repeat(first|refine Zez ?_)
      refine Xoq [11] [fun H=>ScH c s a [] (XbW lit ps++[⟨.empty,(XE s (a+1):Int) - 48,false⟩]) (pl+1) e K H] _ mixed (by decide +kernel) (N:=1) (by decide +kernel) rfl ?_
      repeat(first|refine ZcZ ?_|refine P_v rfl rfl rfl rfl (by decide) (fun _=>Xb1 (XE s (a+1)) rfl rfl rfl (by omega) (by exact hb)) ?_|refine Zd8 ?_|refine ZeA ?_|refine P_v rfl rfl rfl rfl (by decide) (fun _=>Xe4 rfl rfl rfl (by omega)) ?_)
      clear hG hS0 hpc
      intro G hS
      refine Xe5 hS ?_
      clear hS
      intro G ad lo po had hG
      unfold scB at hG
      repeat(first|refine ZJ ?_|refine Zes ?_|refine ZL ?_|(refine Zz ?_;intro G hG)|refine Z1 ?_)
      rw [pct2 (x:=⟨a,lit,ps,pl,e⟩) eb1 eb3] at hY
      subst hY
      exact ZaN
  · have hw:=XfW c lo s a pl e ad (.sl po 0 ps.length 3) lit 37 (by omega) had G _ hG
    clear k2 d1 d2
    repeat(first|refine Zez ?_|refine ZL ?_)
    refine X5 rfl rfl rfl rfl rfl rfl (by decide) hw ?_
    clear hG hw
    rintro _ G ⟨_,lo,hG⟩
    unfold scB at hG
    repeat(first|refine Zes ?_|refine ZJ ?_|refine ZL ?_|(refine Zz ?_;intro G hG)|refine Z1 ?_)
    rw [pct1 (x:=⟨a,lit,ps,pl,e⟩) eb1] at hY
    subst hY
    exact Xbr rfl (.inl rfl) ⟨rfl,.of (.inr rfl) hG⟩
end Go.Proofs.YtlcphjcpoinolaaGreat
