/- Part of the proof: the walk over the program and its laws: Fa. -/
import Derived.Test.YtlcphjcpoinolaaGreatP0
import Derived.Test.YtlcphjcpoinolaaGreatP2
set_option linter.unusedVariables false
namespace Go.Proofs.YtlcphjcpoinolaaGreat
open Go.RowKit Go.Th
set_option maxRecDepth 20000
def XcS (l:List Int):PV:=.tr (l.map I) l.length 1
theorem XY (l:List Int):Xk (XcS l):=Xk.tr fun c hc=>by
  obtain ⟨x,_,rfl⟩:=List.mem_map.1 hc
  exact Xk.v _
theorem Xjd {l:List Int} {i:Nat} {x:Int} (hx:l[i]?=some x):Xav 1 ((l.map I).drop (i * 1))=some [I x]:=by
  rw [Xao]
  have hlt:=(List.getElem?_eq_some_iff.1 hx).1
  refine ⟨by simp;omega,?_⟩
  have hd:(l.map I).drop (i * 1)=I x::(l.map I).drop (i+1):=by
    rw [Nat.mul_one,List.drop_eq_getElem_cons (by simpa using hlt)]
    simp [(List.getElem?_eq_some_iff.1 hx).2]
  rw [hd];rfl
theorem X2 {α:Type} {l:List α} {i:Nat} {x:α} (hx:l[i]?=some x):l.drop i=x::l.drop (i+1):=by
  rw [List.drop_eq_getElem_cons (List.getElem?_eq_some_iff.1 hx).1,(List.getElem?_eq_some_iff.1 hx).2]
def inF (n lo hi:Int):Bool:=decide (lo≤n∧n≤hi)
set_option maxHeartbeats 4000000 in
theorem Xcl (n lo hi:Int):Iso Tryz.prog 113 [I n,I lo,I hi] (fun p=>p=B (inF n lo hi)):=by
  have hG:=Xd
  refine Xb Tryz.func113 rfl rfl rfl ?_
  unfold inF
  by_cases h1:lo≤n
  · by_cases h2:n≤hi
    · repeat(first|refine Zes ?_)
      exact XI rfl rfl (.refl _) (.v _) (by rw [decide_eq_true ⟨h1,h2⟩];rfl)
    · repeat(first|refine Zes ?_)
      exact XI rfl rfl (.refl _) (.v _) (by rw [decide_eq_false (fun h=>h2 h.2)];rfl)
  · repeat(first|refine Zes ?_)
    exact XI rfl rfl (.refl _) (.v _) (by rw [decide_eq_false (fun h=>h1 h.1)];rfl)
def XbO (b:Bool) (e:Int):Int:=if b then e else 0
theorem Xbe (b:Bool) (e:Int):Iso Tryz.prog 50 [B b,I e] (fun p=>p=I (XbO b e)):=by
  have hG:=Xd
  refine Xb Tryz.func50 rfl rfl rfl ?_
  cases b with
  | true =>
    repeat(first|refine Zes ?_)
    exact ZB
  | false =>
    repeat(first|refine Zes ?_)
    exact ZB
def XaG:List Int→Int
  | []=>0
  | e::l=>if e=0 then XaG l else e
set_option maxHeartbeats 4000000 in
theorem Xa8 (l:List Int) (hl:l.length≤1000000):Iso Tryz.prog 45 [XcS l] (fun p=>p=I (XaG l)):=by
  have hG:=Xd
  refine Xb Tryz.func45 rfl rfl rfl ?_
  repeat(first|refine Zes ?_)
  refine Xg (S:=Nat) (fun i=>[(5,XcS l),(6,I l.length),(7,I i)]) (fun i G=>i≤l.length∧XaG l=XaG (l.drop i)∧Has G []) (fun i=>l.length - i) 0
    (.cons rfl (.cons rfl (.cons rfl (.nil _)))) ⟨Nat.zero_le _,by simp,hG⟩ ?_
  clear hG
  rintro i G ⟨hi,hf,hG⟩
  by_cases hil:i < l.length
  · obtain ⟨x,hx⟩:∃ x,l[i]?=some x:=⟨_,List.getElem?_eq_getElem hil⟩
    have hd:=X2 hx
    have hc:=Xjd hx
    rw [hd,XaG] at hf
    by_cases h0:x=0
    · rw [if_pos h0] at hf
      repeat(first|refine Zes ?_|refine ZbQ ?_)
      exact Za4
    · rw [if_neg h0] at hf
      repeat(first|refine Zes ?_|refine ZbQ ?_)
      exact ZaQ
  have e0:l.drop i=[]:=List.drop_eq_nil_of_le (by omega)
  rw [e0,XaG] at hf
  repeat(first|refine Zes ?_)
  exact Zah
def Xqt (e:Nat→Int):Nat→Nat→Int
  | 0,_=>0
  | k+1,i=>if e i=0 then Xqt e k (i+1) else e i
def Xl0 (e:Nat→Int) (n:Nat):Int:=Xqt e n 0
set_option maxHeartbeats 4000000 in
theorem Xjw (n:Nat) (g:FuncId) (cap:List PV) (e:Nat→Int) (hn:n≤1000000) (hc:∀ c ∈ cap,Xk c) (h:∀ i,i < n→Iso Tryz.prog g ([I i]++cap) (fun p=>p=I (e i))) :
    Iso Tryz.prog 108 [I n,.fn (.func g) cap] (fun p=>p=I (Xl0 e n)):=by
  have hG:=Xd
  refine Xb Tryz.func108 rfl rfl rfl ?_
  repeat(first|refine Zes ?_)
  refine Xg (S:=Nat) (fun i=>[(1,.fn (.func g) cap),(7,I n),(8,I i)]) (fun i G=>i≤n∧Xl0 e n=Xqt e (n - i) i∧Has G []) (fun i=>n - i) 0
    (.cons rfl (.cons rfl (.cons rfl (.nil _)))) ⟨Nat.zero_le _,rfl,hG⟩ ?_
  clear hG
  rintro i G ⟨hi,hf,hG⟩
  by_cases hil:i < n
  · have hk:=h i hil
    rw [show n - i=(n - (i+1))+1 from by omega,Xqt] at hf
    by_cases h0:e i=0
    · rw [if_pos h0] at hf
      rw [h0] at hk
      repeat(first|refine Zes ?_|(refine Xr rfl rfl rfl rfl rfl rfl (by decide) hk (TreeL.cons (Xk.v _) hc) ?_;rintro _ rfl))
      exact Za4
    · rw [if_neg h0] at hf
      generalize e i=x at hk h0 hf
      repeat(first|refine Zes ?_|(refine Xr rfl rfl rfl rfl rfl rfl (by decide) hk (TreeL.cons (Xk.v _) hc) ?_;rintro _ rfl))
      exact ZaQ
  rw [show n - i=0 from by omega,Xqt] at hf
  repeat(first|refine Zes ?_)
  exact Zah
def XAV (f:Nat→Int) (i:Nat):Int :=
  if inF (f i) 1 1073741824=false then 18 else if 0 < i∧f i=f (i - 1) then 7 else if 0 < i∧f i < f (i - 1) then 6 else 0
set_option maxHeartbeats 8000000 in
theorem XhF (i:Nat) (g:FuncId) (cap:List PV) (f:Nat→Int) (hn:i≤1000000) (hc:∀ c ∈ cap,Xk c) (h:∀ j,j≤i→Iso Tryz.prog g ([I j]++cap) (fun p=>p=I (f j))) :
    Iso Tryz.prog 110 [I i,.fn (.func g) cap] (fun p=>p=I (XAV f i)):=by
  have hG:=Xd
  have hi:=h i (Nat.le_refl i)
  have hin:=Xcl (f i) 1 1073741824
  have ht:=TreeL.cons (Xk.v (.int .i64 (i:Nat))) hc
  have ht2:∀ c ∈ [I (f i),I 1,I 1073741824],Xk c:=TreeL.cons (Xk.v _) (TreeL.cons (Xk.v _) (TreeL.cons (Xk.v _) TreeL.nil))
  refine Xb Tryz.func110 rfl rfl rfl ?_
  unfold XAV
  cases hb:inF (f i) 1 1073741824 with
  | false =>
    rw [hb] at hin
    repeat(first|refine Zes ?_|(refine Zbu ?_;rintro _ rfl)|(refine Zbv ?_;rintro _ rfl))
    exact XI rfl rfl (.refl _) (.v _) (by rw [if_pos rfl];rfl)
  | true =>
    rw [hb] at hin
    rw [if_neg (by simp)]
    by_cases h0:0 < i
    · have hj:=h (i - 1) (by omega)
      have ht3:=TreeL.cons (Xk.v (.int .i64 ((i - 1:Nat):Int))) hc
      have ej:((i:Nat):Int) - 1=((i - 1:Nat):Int):=by omega
      generalize f (i - 1)=y at hj
      generalize f i=x at hi hin ht2
      by_cases h1:x=y
      · rw [if_pos ⟨h0,h1⟩]
        repeat(first|refine Zes ?_|(refine Zbu ?_;rintro _ rfl)|(refine Zbv ?_;rintro _ rfl)|(refine Zcx ?_;rintro _ rfl)|refine Zcy ?_)
        exact ZB
      · rw [if_neg (fun h=>h1 h.2)]
        by_cases h2:x < y
        · rw [if_pos ⟨h0,h2⟩]
          repeat(first|refine Zes ?_|(refine Zbu ?_;rintro _ rfl)|(refine Zbv ?_;rintro _ rfl)|(refine Zcx ?_;rintro _ rfl)|refine Zcy ?_)
          exact ZB
        · rw [if_neg (fun h=>h2 h.2)]
          repeat(first|refine Zes ?_|(refine Zbu ?_;rintro _ rfl)|(refine Zbv ?_;rintro _ rfl)|(refine Zcx ?_;rintro _ rfl)|refine Zcy ?_)
          exact ZB
    · rw [if_neg (fun h=>h0 h.1),if_neg (fun h=>h0 h.1)]
      generalize f i=x at hi hin ht2
      repeat(first|refine Zes ?_|(refine Zbu ?_;rintro _ rfl)|(refine Zbv ?_;rintro _ rfl))
      exact ZB
end Go.Proofs.YtlcphjcpoinolaaGreat
