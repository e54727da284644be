/- Part of the proof: the walk over the program and its laws: Ka Kb. -/
import Derived.Laws.Shifts
import Derived.Laws.Bits64
import Derived.Test.YtlcphjcpoinolaaGreatP0
import Derived.Test.YtlcphjcpoinolaaGreatP16
set_option linter.unusedVariables false
namespace Go.Proofs.YtlcphjcpoinolaaGreat
open Go.RowKit Go.Th
set_option maxRecDepth 20000
structure KeyR where
  key:Int
  group:Int
  low:Int
  high:Int
  std:Int
  name:Value
def XbY (k:KeyR):List PV:=[I k.key,I k.group,I k.low,I k.high,I k.std,.v k.name]
def Xof (l:List KeyR):PV:=.tr (l.flatMap XbY) l.length 6
theorem Xf5 (p:KeyR):(XbY p).length=6:=rfl
theorem Xdu (p:KeyR):∀ c ∈ XbY p,Xi c:=fun c hc=>by
  simp only [XbY,List.mem_cons,List.not_mem_nil,or_false] at hc
  rcases hc with rfl | rfl | rfl | rfl | rfl | rfl <;> exact Xi.v _
theorem Xj4 (l:List KeyR):Xi (Xof l):=Xi.tr fun c hc=>by
  obtain ⟨f,_,hf⟩:=List.mem_flatMap.1 hc
  exact Xdu f c hf
theorem Xug (a:Int) (x y:Operand) (w:World):(do eqGuard .shr 216 x y (.int .u64 a) (.int .u64 1);binOp .shr 216 (.int .u64 a) (.int .u64 1):Sem Value).run Tryz.prog w=.ok (.int .u64 (a / 2)) w:=by
  go_simp
theorem XnD {o:Oper} {E:Env} {H:Xh} {ty:TypeId} {x y:Operand} {a:Int} (ho:o.op=.binOp .shr 216 x y ty) (hx:E.ev x=some (.v (.int .u64 a))) (hy:E.ev y=some (.v (.int .u64 1))):OpV Tryz.prog o E H (.v (.int .u64 (a / 2))) :=
  Xab ho hx hy rfl rfl (fun w=>Xug _ _ _ w) rfl
theorem XnE {P:Program} {E:Env} {H:Xh} {o:Oper} {t ty:TypeId} {x y:Operand} {a b c:Int} (ho:o.op=.binOp .add t x y ty) (hx:E.ev x=some (.v (.int .i64 a))) (hy:E.ev y=some (.v (.int .i64 b)))
    (h:IntKind.i64.wrap (a+b)=c):OpV P o E H (.v (.int .i64 c)):=Xab ho hx hy rfl rfl (fun w=>by
  subst h
  simp [eqGuard_at_int,binOp_add,Op.intArith]) rfl
theorem XsN {P:Program} {E:Env} {H:Xh} {o:Oper} {t ty:TypeId} {x y:Operand} {a b:Int} (ho:o.op=.binOp .sub t x y ty) (hx:E.ev x=some (.v (.int .i64 a))) (hy:E.ev y=some (.v (.int .i64 b))) :
    OpV P o E H (.v (.int .i64 (IntKind.i64.wrap (a - b)))):=Xab ho hx hy rfl rfl (fun w=>by
  simp [eqGuard_at_int,binOp_sub,Op.intArith]) rfl
theorem Xq9 (i j:Nat) (h:i+j≤18446744073709551614):IntKind.u64.wrap (IntKind.i64.wrap ((i:Int)+j))=(i:Int)+j:=by rw [IntKind.wrap_i64,IntKind.wrap_u64];omega
theorem XoR (i j h:Nat) (hi:i≤9223372036854775807) (hj:j≤9223372036854775807) (hh:h=(i+j) / 2):IntKind.i64.wrap (((i:Int)+j) / 2)=(h:Int):=by rw [IntKind.wrap_i64];omega
def XnA (x y:Int):Int:=if x < y then -1 else if y < x then 1 else 0
theorem XwL (x y:Int):XnA x y < 0↔x < y:=by
  unfold XnA;split
  · omega
  · split <;> omega
theorem XwM (x y:Int):XnA x y=0↔x=y:=by
  unfold XnA;split
  · omega
  · split <;> omega
theorem Xok (x:Int):Iso Tryz.prog 188 [I x] (fun p=>p=B false):=by
  have hG:=Xc
  refine Xb Tryz.func188 rfl rfl rfl ?_
  repeat(first|refine Zd1 ?_)
  exact ZE
theorem XwK (x y:Int):Iso Tryz.prog 216 [I x,I y] (fun p=>p=I (XnA x y)):=by
  have hG:=Xc
  refine Xb Tryz.func216 rfl rfl rfl ?_
  by_cases h1:x < y
  · have e:XnA x y=-1:=by unfold XnA;rw [if_pos h1]
    rw [e]
    repeat(first|refine Zd1 ?_|(refine Zci ?_;rintro _ rfl))
    exact ZE
  · by_cases h2:y < x
    · have e:XnA x y=1:=by unfold XnA;rw [if_neg h1,if_pos h2]
      rw [e]
      repeat(first|refine Zd1 ?_|(refine Zci ?_;rintro _ rfl))
      exact ZE
    · have e:XnA x y=0:=by unfold XnA;rw [if_neg h1,if_neg h2]
      rw [e]
      repeat(first|refine Zd1 ?_|(refine Zci ?_;rintro _ rfl))
      exact ZE
theorem Xiy (p:KeyR) (x:Int) (hn:XV (.v p.name)=true):Iso Tryz.prog 215 [.agg (XbY p),I x] (fun r=>r=I (XnA p.key x)):=by
  have hG:=Xc
  have h1:(XbY p).all XV=true:=by simp only [XbY,List.all_cons,List.all_nil,hn];rfl
  refine Xb Tryz.func215 rfl rfl rfl ?_
  repeat(first|refine Zd1 ?_|(refine XmU hG rfl rfl (by decide) rfl rfl (by exact h1) ?_;intro id G hG)|(refine Xr rfl rfl rfl rfl rfl rfl (by decide) (XwK _ _) (TreeL.cons (Xe _) (TreeL.cons (Xe _) TreeL.nil)) ?_;rintro _ rfl))
  exact ZE
def srG (l:List Int) (x:Int):Nat→Nat→Nat→Nat
  | 0,i,_=>i
  | n+1,i,j=>if i < j then (if l.getD ((i+j) / 2) 0 < x then srG l x n ((i+j) / 2+1) j else srG l x n i ((i+j) / 2)) else i
def srI (l:List Int) (x:Int):Nat:=srG l x l.length 0 l.length
def srB (l:List Int) (x:Int):Bool:=decide (srI l x < l.length) && decide (l.getD (srI l x) 0=x)
theorem Xro {l:List Int} {x:Int} {n i j:Nat} (h:¬ i < j):srG l x n i j=i:=by
  cases n with
  | zero=>rfl
  | succ n=>simp only [srG];rw [if_neg h]
set_option maxHeartbeats 8000000 in
theorem XiW (l:List KeyR) (x:Int) (hl:l.length≤9223372036854775807) (hn:∀ k ∈ l,XV (.v k.name)=true):Iso Tryz.prog 214 [Xof l,I x,.fn (.func 215) []] (fun p=>p=.tup [I (srI (l.map KeyR.key) x),B (srB (l.map KeyR.key) x)]):=by
  have hG:=Xc
  have ml:(l.map KeyR.key).length=l.length:=List.length_map ..
  refine Xb Tryz.func214 rfl rfl rfl ?_
  repeat(first|refine Zd1 ?_)
  refine Xg (S:=Nat × Nat) (fun s=>[(0,Xof l),(1,I x),(2,.fn (.func 215) []),(8,I l.length),(9,I s.1),(10,I s.2)]) (fun s _=>s.1≤l.length∧s.2≤l.length∧∃ n,s.2 - s.1≤n∧srG (l.map KeyR.key) x n s.1 s.2=srI (l.map KeyR.key) x) (fun s=>s.2 - s.1) (0,l.length)
    (.cons rfl (.cons rfl (.cons rfl (.cons rfl (.cons rfl (.cons rfl (.nil _))))))) ⟨by simp,by simp,l.length,by simp,by simp only [srI,ml]⟩ ?_
  rintro ⟨i,j⟩ G ⟨h1,h2,n,h3,h4⟩
  have hG:=Has.nil G
  dsimp only at h1 h2 h3 h4 ⊢
  by_cases hij:i < j
  · obtain ⟨n,rfl⟩:∃ k,n=k+1:=⟨n - 1,by omega⟩
    rw [srG,if_pos hij] at h4
    obtain ⟨h,hh⟩:∃ h,h=(i+j) / 2:=⟨_,rfl⟩
    rw [← hh] at h4
    have hr:i≤h∧h < j:=by omega
    obtain ⟨s,ws⟩:∃ s,IntKind.i64.wrap ((i:Int)+j)=s:=⟨_,rfl⟩
    have w1:IntKind.u64.wrap s=(i:Int)+j:=by rw [← ws];exact Xq9 i j (by omega)
    have w2:IntKind.i64.wrap (((i:Int)+j) / 2)=(h:Int):=XoR i j h (by omega) (by omega) hh
    obtain ⟨p,hp⟩:∃ p,l[h]?=some p:=⟨_,List.getElem?_eq_getElem (by omega)⟩
    have hk:(l.map KeyR.key).getD h 0=p.key:=by simp [hp]
    rw [hk] at h4
    have o1:Xai 6 ((l.flatMap XbY).drop ((h:Int).toNat * 6))=some (XbY p):=Xu Xf5 l h p hp
    have hls:=Xiy p x (hn p (List.mem_of_getElem? hp))
    have hcm:=XwL p.key x
    generalize XnA p.key x=cv at hls hcm
    by_cases hlt:p.key < x
    · rw [if_pos hlt] at h4
      have hcv:cv < 0:=hcm.2 hlt
      clear hcm hk ml
      repeat(first|refine Zd1 ?_|refine ZJ ?_|refine Xj rfl rfl (by decide) (XnE rfl rfl rfl (by exact ws)) ?_|refine Zc8 ?_|refine Zc9 ?_|refine Xj rfl rfl (by decide) (XnD rfl rfl rfl) ?_|refine Zbl ?_|(refine ZbH ?_;rintro _ rfl)|refine ZN ?_|refine ZU ?_)
      exact ⟨(h+1,j),by dsimp only;omega,(.cons rfl (.cons rfl (.cons rfl (.cons rfl (.cons rfl (.cons rfl (.nil _))))))),by dsimp only;omega,by dsimp only;omega,n,by dsimp only;omega,h4⟩
    · rw [if_neg hlt] at h4
      have hcv:¬ cv < 0:=fun h=>hlt (hcm.1 h)
      clear hcm hk ml
      repeat(first|refine Zd1 ?_|refine ZJ ?_|refine Xj rfl rfl (by decide) (XnE rfl rfl rfl (by exact ws)) ?_|refine Zc8 ?_|refine Zc9 ?_|refine Xj rfl rfl (by decide) (XnD rfl rfl rfl) ?_|refine Zbl ?_|(refine ZbH ?_;rintro _ rfl)|refine ZN ?_|refine ZU ?_)
      exact ⟨(i,h),by dsimp only;omega,(.cons rfl (.cons rfl (.cons rfl (.cons rfl (.cons rfl (.cons rfl (.nil _))))))),by dsimp only;omega,by dsimp only;omega,n,by dsimp only;omega,h4⟩
  · rw [Xro hij] at h4
    by_cases hil:i < l.length
    · obtain ⟨p,hp⟩:∃ p,l[i]?=some p:=⟨_,List.getElem?_eq_getElem hil⟩
      have hk:(l.map KeyR.key).getD i 0=p.key:=by simp [hp]
      have o1:Xai 6 ((l.flatMap XbY).drop ((i:Int).toNat * 6))=some (XbY p):=Xu Xf5 l i p hp
      have hls:=Xiy p x (hn p (List.mem_of_getElem? hp))
      have hcm:=XwM p.key x
      generalize XnA p.key x=cv at hls hcm
      by_cases hq:p.key=x
      · have e:srB (l.map KeyR.key) x=true:=by simp only [srB,← h4];rw [ml,hk,decide_eq_true hil,decide_eq_true hq];rfl
        have hcv:cv=0:=hcm.2 hq
        rw [e,← h4]
        clear hcm hk ml
        repeat(first|refine Zd1 ?_|refine Zbl ?_|(refine ZbH ?_;rintro _ rfl))
        exact Zbk
      · have e:srB (l.map KeyR.key) x=false:=by simp only [srB,← h4];rw [ml,hk,decide_eq_true hil,decide_eq_false hq];rfl
        have hcv:¬ cv=0:=fun h=>hq (hcm.1 h)
        rw [e,← h4]
        clear hcm hk ml
        repeat(first|refine Zd1 ?_|refine Zbl ?_|(refine ZbH ?_;rintro _ rfl))
        exact Zbk
    · have e:srB (l.map KeyR.key) x=false:=by simp only [srB,← h4];rw [ml,decide_eq_false hil];rfl
      rw [e,← h4]
      repeat(first|refine Zd1 ?_)
      exact Zbk
end Go.Proofs.YtlcphjcpoinolaaGreat
namespace Go.Proofs.YtlcphjcpoinolaaGreat
open Go.RowKit Go.Th
set_option maxRecDepth 20000
def KeyR.num (k:KeyR):List Int:=[k.key,k.group,k.low,k.high,k.std]
def Xj6:List (List Int):=[[1,1,0,1073741824,0],[2,1,0,1,0],[3,1,0,1,0],[4,1,0,3,0],[5,1,2,1638,22],[6,1,0,16777215,0],[7,1,0,63,0],[8,1,0,255,0],[9,1,-400,400,0],[10,1,0,1,0],[20,2,0,1073741824,0],[21,2,0,3,0],[22,2,-31680,31680,0],[23,2,-31680,31680,0],[24,2,-31680,31680,0],[25,2,0,31680,0],[26,2,0,31680,0],[27,2,0,31680,0],[28,2,0,1,0],[29,2,0,1,0],[30,2,0,1,1],[31,2,0,1,0],[32,2,0,9,0],[33,2,0,1073741824,0],[34,2,1,9,1],[35,2,0,32767,0],[36,2,1,31680,720],[37,2,0,1,0],[40,3,720,31680,12240],[41,3,720,31680,15840],[42,3,0,31680,1440],[43,3,0,31680,1440],[44,3,0,31680,1440],[45,3,0,31680,1440],[46,3,0,32767,0],[47,3,1,6,1],[50,4,0,1,0],[51,4,0,1,0],[52,4,0,31680,0],[60,5,1,32,1],[61,5,0,2,0],[62,5,0,31680,0],[63,5,0,16777215,16777215],[70,6,0,31680,0],[71,6,0,2,0]]
def Xdv:List Int:=Xj6.map (·.headD 0)
def Xjh (x:Int):List Int:=if srB Xdv x=true then Xj6.getD (srI Xdv x) [] else [0,0,0,0,0]
def XwG:List PV→List KeyR
  | .v (.int _ a)::.v (.int _ b)::.v (.int _ c)::.v (.int _ d)::.v (.int _ e)::.v n::r=>⟨a,b,c,d,e,n⟩::XwG r
  | _=>[]
theorem XpT {C:List PV} (e:(XwG C).flatMap XbY=C) (n:(XwG C).length=45):PV.tr C 45 6=Xof (XwG C):=by simp only [Xof,e,n]
theorem XpS {C:List PV} (e:(XwG C).flatMap XbY=C) (n:(XwG C).length=45):Xi (PV.tr C 45 6):=by rw [XpT e n];exact Xj4 _
set_option maxHeartbeats 8000000 in
theorem Xo6:Iso Tryz.prog 213 [] (fun p=>∃ l:List KeyR,p=Xof l∧l.map KeyR.num=Xj6∧∀ k ∈ l,XV (.v k.name)=true):=by
  have hG:=Xc
  refine Xb Tryz.func213 rfl rfl rfl ?_
  repeat(first|refine Zd1 ?_|refine Z5 ?_|(refine ZL ?_;intro id G hG))
  refine XJ rfl rfl (.own hG (k:=0) rfl rfl) ?_ ?_
  · exact XpS (by kernel_rfl) (by kernel_rfl)
  · exact ⟨XwG _,XpT (by kernel_rfl) (by kernel_rfl),by kernel_rfl,List.all_eq_true.1 (by kernel_rfl)⟩
theorem XAc (x:Int) (h:srB Xdv x=false):Xjh x=[0,0,0,0,0]:=by unfold Xjh;rw [h];rfl
theorem XAd {l:List KeyR} (hl:l.map KeyR.num=Xj6) (x:Int) (h:srB Xdv x=true):∃ k,l[srI Xdv x]?=some k∧k.num=Xjh x:=by
  have hlen:l.length=Xdv.length:=by rw [Xdv,← hl];simp
  have h1:srI Xdv x < l.length:=by
    simp only [srB,Bool.and_eq_true,decide_eq_true_eq] at h
    rw [hlen];exact h.1
  refine ⟨l[srI Xdv x],List.getElem?_eq_getElem h1,?_⟩
  unfold Xjh
  rw [if_pos h,← hl]
  simp [h1]
theorem Xr6 {l:List KeyR} (hl:l.map KeyR.num=Xj6):l.map KeyR.key=Xdv∧l.length=45:=by
  constructor
  · rw [Xdv,← hl,List.map_map];rfl
  · have:=congrArg List.length hl
    rw [List.length_map] at this
    rw [this];rfl
theorem Xhb {k:KeyR} (h:XV (.v k.name)=true):(XbY k).all XV=true:=by simp only [XbY,List.all_cons,List.all_nil,h];rfl
set_option maxHeartbeats 8000000 in
theorem Xnq (x:Int):Iso Tryz.prog 201 [I x] (fun p=>∃ k:KeyR,p=.tup [.agg (XbY k),B (srB Xdv x)]∧k.num=Xjh x∧XV (.v k.name)=true):=by
  have hG:=Xc
  refine Xb Tryz.func201 rfl rfl rfl ?_
  repeat(first|refine Zd1 ?_|(refine Xr rfl rfl rfl rfl rfl rfl (by decide) Xo6 TreeL.nil ?_;rintro _ ⟨l,rfl,hl,hn⟩)|(refine ZD ?_;intro id G hG))
  obtain ⟨k1,k2⟩:=Xr6 hl
  have hS:=XiW l x (by omega) hn
  rw [k1] at hS
  cases hb:srB Xdv x with
  | false =>
    rw [hb] at hS
    clear hl
    repeat(first|refine Zd1 ?_|(refine Zda ?_;rintro _ rfl)|refine ZS ?_|refine Z5 ?_|(refine ZA ?_;intro G hG))
    exact Xfr rfl rfl ((XaR (hG.get 0 _ _ rfl)).trans rfl) rfl (.refl _) (.refl _) (Xi.agg (Xdu ⟨0,0,0,0,0,.string .empty⟩)) (.v _) ⟨⟨0,0,0,0,0,.string .empty⟩,rfl,(XAc x hb).symm,rfl⟩
  | true =>
    obtain ⟨k,h1,h2⟩:=XAd hl x hb
    rw [hb] at hS
    have hk1:=hn k (List.mem_of_getElem? h1)
    have hone:=Xhb hk1
    have hlt:srI Xdv x < l.length:=(List.getElem?_eq_some_iff.1 h1).1
    generalize srI Xdv x=i at hS h1 hlt
    have o1:Xai 6 ((l.flatMap XbY).drop ((i:Int).toNat * 6))=some (XbY k):=Xu Xf5 l i k h1
    clear hl
    repeat(first|refine Zd1 ?_|(refine Zda ?_;rintro _ rfl)|refine Zbl ?_|(refine Za0 ?_;intro G hG)|refine ZS ?_)
    exact Xfr rfl rfl ((XaR (hG.get 0 _ _ rfl)).trans rfl) rfl (.refl _) (.refl _) (Xi.agg (Xdu k)) (.v _) ⟨k,rfl,h2,hk1⟩
end Go.Proofs.YtlcphjcpoinolaaGreat
