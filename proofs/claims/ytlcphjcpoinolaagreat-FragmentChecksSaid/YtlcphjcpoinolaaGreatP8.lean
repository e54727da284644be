/- Part of the proof: the walk over the program and its laws: Ka Kb. -/
import Derived.Laws.Shifts
import Derived.Laws.Bits64
import Derived.Test.YtlcphjcpoinolaaGreatP0
import Derived.Test.YtlcphjcpoinolaaGreatP7
set_option linter.unusedVariables false
namespace Go.Proofs.YtlcphjcpoinolaaGreat
open Go.RowKit Go.Th
set_option maxRecDepth 20000
structure KeyR where
  key:Int
  group:Int
  low:Int
  high:Int
  std:Int
  name:Value
def XbX (k:KeyR):List PV:=[I k.key,I k.group,I k.low,I k.high,I k.std,.v k.name]
def XnK (l:List KeyR):PV:=.tr (l.flatMap XbX) l.length 6
theorem XfL (p:KeyR):(XbX p).length=6:=rfl
theorem Xdm (p:KeyR):∀ c ∈ XbX p,Xk c:=fun c hc=>by
  simp only [XbX,List.mem_cons,List.not_mem_nil,or_false] at hc
  rcases hc with rfl | rfl | rfl | rfl | rfl | rfl <;> exact Xk.v _
theorem XjM (l:List KeyR):Xk (XnK l):=Xk.tr fun c hc=>by
  obtain ⟨f,_,hf⟩:=List.mem_flatMap.1 hc
  exact Xdm f c hf
theorem Xt7 (a:Int) (x y:Operand) (w:World):(do eqGuard .shr 216 x y (.int .u64 a) (.int .u64 1);binOp .shr 216 (.int .u64 a) (.int .u64 1):Sem Value).run Tryz.prog w=.ok (.int .u64 (a / 2)) w:=by
  go_simp
theorem Xm2 {o:Oper} {E:Env} {H:Xi} {ty:TypeId} {x y:Operand} {a:Int} (ho:o.op=.binOp .shr 216 x y ty) (hx:E.ev x=some (.v (.int .u64 a))) (hy:E.ev y=some (.v (.int .u64 1))):OpV Tryz.prog o E H (.v (.int .u64 (a / 2))) :=
  X7 ho hx hy rfl rfl (fun w=>Xt7 _ _ _ w) rfl
theorem Xm4 {P:Program} {E:Env} {H:Xi} {o:Oper} {t ty:TypeId} {x y:Operand} {a b c:Int} (ho:o.op=.binOp .add t x y ty) (hx:E.ev x=some (.v (.int .i64 a))) (hy:E.ev y=some (.v (.int .i64 b)))
    (h:IntKind.i64.wrap (a+b)=c):OpV P o E H (.v (.int .i64 c)):=X7 ho hx hy rfl rfl (fun w=>by
  subst h
  simp [eqGuard_at_int,binOp_add,Op.intArith]) rfl
theorem XsE {P:Program} {E:Env} {H:Xi} {o:Oper} {t ty:TypeId} {x y:Operand} {a b:Int} (ho:o.op=.binOp .sub t x y ty) (hx:E.ev x=some (.v (.int .i64 a))) (hy:E.ev y=some (.v (.int .i64 b))) :
    OpV P o E H (.v (.int .i64 (IntKind.i64.wrap (a - b)))):=X7 ho hx hy rfl rfl (fun w=>by
  simp [eqGuard_at_int,binOp_sub,Op.intArith]) rfl
theorem XqR (i j:Nat) (h:i+j≤18446744073709551614):IntKind.u64.wrap (IntKind.i64.wrap ((i:Int)+j))=(i:Int)+j:=by rw [IntKind.wrap_i64,IntKind.wrap_u64];omega
theorem Xom (i j h:Nat) (hi:i≤9223372036854775807) (hj:j≤9223372036854775807) (hh:h=(i+j) / 2):IntKind.i64.wrap (((i:Int)+j) / 2)=(h:Int):=by rw [IntKind.wrap_i64];omega
def XmZ (x y:Int):Int:=if x < y then -1 else if y < x then 1 else 0
theorem XwI (x y:Int):XmZ x y < 0↔x < y:=by
  unfold XmZ;split
  · omega
  · split <;> omega
theorem XwJ (x y:Int):XmZ x y=0↔x=y:=by
  unfold XmZ;split
  · omega
  · split <;> omega
theorem XnR (x:Int):Iso Tryz.prog 188 [I x] (fun p=>p=B false):=by
  have hG:=Xd
  refine Xb Tryz.func188 rfl rfl rfl ?_
  repeat(first|refine Zes ?_)
  exact ZB
theorem XwH (x y:Int):Iso Tryz.prog 216 [I x,I y] (fun p=>p=I (XmZ x y)):=by
  have hG:=Xd
  refine Xb Tryz.func216 rfl rfl rfl ?_
  by_cases h1:x < y
  · have e:XmZ x y=-1:=by unfold XmZ;rw [if_pos h1]
    rw [e]
    repeat(first|refine Zes ?_|(refine ZcA ?_;rintro _ rfl))
    exact ZB
  · by_cases h2:y < x
    · have e:XmZ x y=1:=by unfold XmZ;rw [if_neg h1,if_pos h2]
      rw [e]
      repeat(first|refine Zes ?_|(refine ZcA ?_;rintro _ rfl))
      exact ZB
    · have e:XmZ x y=0:=by unfold XmZ;rw [if_neg h1,if_neg h2]
      rw [e]
      repeat(first|refine Zes ?_|(refine ZcA ?_;rintro _ rfl))
      exact ZB
theorem Xiq (p:KeyR) (x:Int) (hn:XZ (.v p.name)=true):Iso Tryz.prog 215 [.agg (XbX p),I x] (fun r=>r=I (XmZ p.key x)):=by
  have hG:=Xd
  have h1:(XbX p).all XZ=true:=by simp only [XbX,List.all_cons,List.all_nil,hn];rfl
  refine Xb Tryz.func215 rfl rfl rfl ?_
  repeat(first|refine Zes ?_|(refine Xmb hG rfl rfl (by decide) rfl rfl (by exact h1) ?_;intro id G hG)|(refine Xr rfl rfl rfl rfl rfl rfl (by decide) (XwH _ _) (TreeL.cons (Xe _) (TreeL.cons (Xe _) TreeL.nil)) ?_;rintro _ rfl))
  exact ZB
def srG (l:List Int) (x:Int):Nat→Nat→Nat→Nat
  | 0,i,_=>i
  | n+1,i,j=>if i < j then (if l.getD ((i+j) / 2) 0 < x then srG l x n ((i+j) / 2+1) j else srG l x n i ((i+j) / 2)) else i
def srI (l:List Int) (x:Int):Nat:=srG l x l.length 0 l.length
def srB (l:List Int) (x:Int):Bool:=decide (srI l x < l.length) && decide (l.getD (srI l x) 0=x)
theorem Xq2 {l:List Int} {x:Int} {n i j:Nat} (h:¬ i < j):srG l x n i j=i:=by
  cases n with
  | zero=>rfl
  | succ n=>simp only [srG];rw [if_neg h]
set_option maxHeartbeats 8000000 in
theorem XiK (l:List KeyR) (x:Int) (hl:l.length≤9223372036854775807) (hn:∀ k ∈ l,XZ (.v k.name)=true):Iso Tryz.prog 214 [XnK l,I x,.fn (.func 215) []] (fun p=>p=.tup [I (srI (l.map KeyR.key) x),B (srB (l.map KeyR.key) x)]):=by
  have hG:=Xd
  have ml:(l.map KeyR.key).length=l.length:=List.length_map ..
  refine Xb Tryz.func214 rfl rfl rfl ?_
  repeat(first|refine Zes ?_)
  refine Xg (S:=Nat × Nat) (fun s=>[(0,XnK l),(1,I x),(2,.fn (.func 215) []),(8,I l.length),(9,I s.1),(10,I s.2)]) (fun s _=>s.1≤l.length∧s.2≤l.length∧∃ n,s.2 - s.1≤n∧srG (l.map KeyR.key) x n s.1 s.2=srI (l.map KeyR.key) x) (fun s=>s.2 - s.1) (0,l.length)
    (.cons rfl (.cons rfl (.cons rfl (.cons rfl (.cons rfl (.cons rfl (.nil _))))))) ⟨by simp,by simp,l.length,by simp,by simp only [srI,ml]⟩ ?_
  rintro ⟨i,j⟩ G ⟨h1,h2,n,h3,h4⟩
  have hG:=Has.nil G
  dsimp only at h1 h2 h3 h4 ⊢
  by_cases hij:i < j
  · obtain ⟨n,rfl⟩:∃ k,n=k+1:=⟨n - 1,by omega⟩
    rw [srG,if_pos hij] at h4
    obtain ⟨h,hh⟩:∃ h,h=(i+j) / 2:=⟨_,rfl⟩
    rw [← hh] at h4
    have hr:i≤h∧h < j:=by omega
    obtain ⟨s,ws⟩:∃ s,IntKind.i64.wrap ((i:Int)+j)=s:=⟨_,rfl⟩
    have w1:IntKind.u64.wrap s=(i:Int)+j:=by rw [← ws];exact XqR i j (by omega)
    have w2:IntKind.i64.wrap (((i:Int)+j) / 2)=(h:Int):=Xom i j h (by omega) (by omega) hh
    obtain ⟨p,hp⟩:∃ p,l[h]?=some p:=⟨_,List.getElem?_eq_getElem (by omega)⟩
    have hk:(l.map KeyR.key).getD h 0=p.key:=by simp [hp]
    rw [hk] at h4
    have o1:Xav 6 ((l.flatMap XbX).drop ((h:Int).toNat * 6))=some (XbX p):=Xp XfL l h p hp
    have hls:=Xiq p x (hn p (List.mem_of_getElem? hp))
    have hcm:=XwI p.key x
    generalize XmZ p.key x=cv at hls hcm
    by_cases hlt:p.key < x
    · rw [if_pos hlt] at h4
      have hcv:cv < 0:=hcm.2 hlt
      clear hcm hk ml
      repeat(first|refine Zes ?_|refine ZJ ?_|refine Xn rfl rfl (by decide) (Xm4 rfl rfl rfl (by exact ws)) ?_|refine ZdB ?_|refine ZdC ?_|refine Xn rfl rfl (by decide) (Xm2 rfl rfl rfl) ?_|refine Zbx ?_|(refine ZbT ?_;rintro _ rfl)|refine ZY ?_|refine Z1 ?_)
      exact ⟨(h+1,j),by dsimp only;omega,(.cons rfl (.cons rfl (.cons rfl (.cons rfl (.cons rfl (.cons rfl (.nil _))))))),by dsimp only;omega,by dsimp only;omega,n,by dsimp only;omega,h4⟩
    · rw [if_neg hlt] at h4
      have hcv:¬ cv < 0:=fun h=>hlt (hcm.1 h)
      clear hcm hk ml
      repeat(first|refine Zes ?_|refine ZJ ?_|refine Xn rfl rfl (by decide) (Xm4 rfl rfl rfl (by exact ws)) ?_|refine ZdB ?_|refine ZdC ?_|refine Xn rfl rfl (by decide) (Xm2 rfl rfl rfl) ?_|refine Zbx ?_|(refine ZbT ?_;rintro _ rfl)|refine ZY ?_|refine Z1 ?_)
      exact ⟨(i,h),by dsimp only;omega,(.cons rfl (.cons rfl (.cons rfl (.cons rfl (.cons rfl (.cons rfl (.nil _))))))),by dsimp only;omega,by dsimp only;omega,n,by dsimp only;omega,h4⟩
  · rw [Xq2 hij] at h4
    by_cases hil:i < l.length
    · obtain ⟨p,hp⟩:∃ p,l[i]?=some p:=⟨_,List.getElem?_eq_getElem hil⟩
      have hk:(l.map KeyR.key).getD i 0=p.key:=by simp [hp]
      have o1:Xav 6 ((l.flatMap XbX).drop ((i:Int).toNat * 6))=some (XbX p):=Xp XfL l i p hp
      have hls:=Xiq p x (hn p (List.mem_of_getElem? hp))
      have hcm:=XwJ p.key x
      generalize XmZ p.key x=cv at hls hcm
      by_cases hq:p.key=x
      · have e:srB (l.map KeyR.key) x=true:=by simp only [srB,← h4];rw [ml,hk,decide_eq_true hil,decide_eq_true hq];rfl
        have hcv:cv=0:=hcm.2 hq
        rw [e,← h4]
        clear hcm hk ml
        repeat(first|refine Zes ?_|refine Zbx ?_|(refine ZbT ?_;rintro _ rfl))
        exact Zbw
      · have e:srB (l.map KeyR.key) x=false:=by simp only [srB,← h4];rw [ml,hk,decide_eq_true hil,decide_eq_false hq];rfl
        have hcv:¬ cv=0:=fun h=>hq (hcm.1 h)
        rw [e,← h4]
        clear hcm hk ml
        repeat(first|refine Zes ?_|refine Zbx ?_|(refine ZbT ?_;rintro _ rfl))
        exact Zbw
    · have e:srB (l.map KeyR.key) x=false:=by simp only [srB,← h4];rw [ml,decide_eq_false hil];rfl
      rw [e,← h4]
      repeat(first|refine Zes ?_)
      exact Zbw
end Go.Proofs.YtlcphjcpoinolaaGreat
namespace Go.Proofs.YtlcphjcpoinolaaGreat
open Go.RowKit Go.Th
set_option maxRecDepth 20000
def KeyR.num (k:KeyR):List Int:=[k.key,k.group,k.low,k.high,k.std]
def XjP:List (List Int):=[[1,1,0,1073741824,0],[2,1,0,1,0],[3,1,0,1,0],[4,1,0,3,0],[5,1,2,1638,22],[6,1,0,16777215,0],[7,1,0,63,0],[8,1,0,255,0],[9,1,-400,400,0],[10,1,0,1,0],[20,2,0,1073741824,0],[21,2,0,3,0],[22,2,-31680,31680,0],[23,2,-31680,31680,0],[24,2,-31680,31680,0],[25,2,0,31680,0],[26,2,0,31680,0],[27,2,0,31680,0],[28,2,0,1,0],[29,2,0,1,0],[30,2,0,1,1],[31,2,0,1,0],[32,2,0,9,0],[33,2,0,1073741824,0],[34,2,1,9,1],[35,2,0,32767,0],[36,2,1,31680,720],[37,2,0,1,0],[40,3,720,31680,12240],[41,3,720,31680,15840],[42,3,0,31680,1440],[43,3,0,31680,1440],[44,3,0,31680,1440],[45,3,0,31680,1440],[46,3,0,32767,0],[47,3,1,6,1],[50,4,0,1,0],[51,4,0,1,0],[52,4,0,31680,0],[60,5,1,32,1],[61,5,0,2,0],[62,5,0,31680,0],[63,5,0,16777215,16777215],[70,6,0,31680,0],[71,6,0,2,0]]
def Xdn:List Int:=XjP.map (·.headD 0)
def Xi5 (x:Int):List Int:=if srB Xdn x=true then XjP.getD (srI Xdn x) [] else [0,0,0,0,0]
def XwC:List PV→List KeyR
  | .v (.int _ a)::.v (.int _ b)::.v (.int _ c)::.v (.int _ d)::.v (.int _ e)::.v n::r=>⟨a,b,c,d,e,n⟩::XwC r
  | _=>[]
theorem Xpr {C:List PV} (e:(XwC C).flatMap XbX=C) (n:(XwC C).length=45):PV.tr C 45 6=XnK (XwC C):=by simp only [XnK,e,n]
theorem Xpq {C:List PV} (e:(XwC C).flatMap XbX=C) (n:(XwC C).length=45):Xk (PV.tr C 45 6):=by rw [Xpr e n];exact XjM _
set_option maxHeartbeats 8000000 in
theorem XoD:Iso Tryz.prog 213 [] (fun p=>∃ l:List KeyR,p=XnK l∧l.map KeyR.num=XjP∧∀ k ∈ l,XZ (.v k.name)=true):=by
  have hG:=Xd
  refine Xb Tryz.func213 rfl rfl rfl ?_
  repeat(first|refine Zes ?_|refine Zaj ?_|(refine ZO ?_;intro id G hG))
  refine XI rfl rfl (.own hG (k:=0) rfl rfl) ?_ ?_
  · exact Xpq (by kernel_rfl) (by kernel_rfl)
  · exact ⟨XwC _,Xpr (by kernel_rfl) (by kernel_rfl),by kernel_rfl,List.all_eq_true.1 (by kernel_rfl)⟩
theorem XAb (x:Int) (h:srB Xdn x=false):Xi5 x=[0,0,0,0,0]:=by unfold Xi5;rw [h];rfl
theorem XAc {l:List KeyR} (hl:l.map KeyR.num=XjP) (x:Int) (h:srB Xdn x=true):∃ k,l[srI Xdn x]?=some k∧k.num=Xi5 x:=by
  have hlen:l.length=Xdn.length:=by rw [Xdn,← hl];simp
  have h1:srI Xdn x < l.length:=by
    simp only [srB,Bool.and_eq_true,decide_eq_true_eq] at h
    rw [hlen];exact h.1
  refine ⟨l[srI Xdn x],List.getElem?_eq_getElem h1,?_⟩
  unfold Xi5
  rw [if_pos h,← hl]
  simp [h1]
theorem XrT {l:List KeyR} (hl:l.map KeyR.num=XjP):l.map KeyR.key=Xdn∧l.length=45:=by
  constructor
  · rw [Xdn,← hl,List.map_map];rfl
  · have:=congrArg List.length hl
    rw [List.length_map] at this
    rw [this];rfl
theorem XgO {k:KeyR} (h:XZ (.v k.name)=true):(XbX k).all XZ=true:=by simp only [XbX,List.all_cons,List.all_nil,h];rfl
set_option maxHeartbeats 8000000 in
theorem XmM (x:Int):Iso Tryz.prog 201 [I x] (fun p=>∃ k:KeyR,p=.tup [.agg (XbX k),B (srB Xdn x)]∧k.num=Xi5 x∧XZ (.v k.name)=true):=by
  have hG:=Xd
  refine Xb Tryz.func201 rfl rfl rfl ?_
  repeat(first|refine Zes ?_|(refine Xr rfl rfl rfl rfl rfl rfl (by decide) XoD TreeL.nil ?_;rintro _ ⟨l,rfl,hl,hn⟩)|(refine ZI ?_;intro id G hG))
  obtain ⟨k1,k2⟩:=XrT hl
  have hS:=XiK l x (by omega) hn
  rw [k1] at hS
  cases hb:srB Xdn x with
  | false =>
    rw [hb] at hS
    clear hl
    repeat(first|refine Zes ?_|(refine ZdD ?_;rintro _ rfl)|refine Z8 ?_|refine Zaj ?_|(refine Zz ?_;intro G hG))
    exact XiO rfl rfl ((XaV (hG.get 0 _ _ rfl)).trans rfl) rfl (.refl _) (.refl _) (Xk.agg (Xdm ⟨0,0,0,0,0,.string .empty⟩)) (.v _) ⟨⟨0,0,0,0,0,.string .empty⟩,rfl,(XAb x hb).symm,rfl⟩
  | true =>
    obtain ⟨k,h1,h2⟩:=XAc hl x hb
    rw [hb] at hS
    have hk1:=hn k (List.mem_of_getElem? h1)
    have hone:=XgO hk1
    have hlt:srI Xdn x < l.length:=(List.getElem?_eq_some_iff.1 h1).1
    generalize srI Xdn x=i at hS h1 hlt
    have o1:Xav 6 ((l.flatMap XbX).drop ((i:Int).toNat * 6))=some (XbX k):=Xp XfL l i k h1
    clear hl
    repeat(first|refine Zes ?_|(refine ZdD ?_;rintro _ rfl)|refine Zbx ?_|(refine Za5 ?_;intro G hG)|refine Z8 ?_)
    exact XiO rfl rfl ((XaV (hG.get 0 _ _ rfl)).trans rfl) rfl (.refl _) (.refl _) (Xk.agg (Xdm k)) (.v _) ⟨k,rfl,h2,hk1⟩
end Go.Proofs.YtlcphjcpoinolaaGreat
