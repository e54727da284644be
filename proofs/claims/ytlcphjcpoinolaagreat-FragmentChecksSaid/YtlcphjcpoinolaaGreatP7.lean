/- Part of the proof: the walk over the program and its laws: Vb. -/
import Derived.Test.YtlcphjcpoinolaaGreatP0
import Derived.Test.YtlcphjcpoinolaaGreatP6
set_option linter.unusedVariables false
namespace Go.Proofs.YtlcphjcpoinolaaGreat
open Go.RowKit Go.Th
set_option maxRecDepth 20000
theorem Xqi (s:ByteArray) (i n:Nat):∀ (f k:Nat) (p:Int) (lo hi:Nat),(Xsi s i n f k p lo hi).2.2=true→k+f=n+1→k≤n→1≤k→(1 < k→i+(k - 1) < s.size) →
    (Xsi s i n f k p lo hi).2.1=n∧(1 < n→i+(n - 1) < s.size)
  | 0,k,p,lo,hi,_,h2,h3,_,_=>by omega
  | f+1,k,p,lo,hi,h,h2,h3,h4,h5=>by
    rw [Xsi] at h ⊢
    by_cases hk:k < n
    · rw [if_pos hk] at h ⊢
      by_cases e1:s.size≤i+k
      · rw [if_pos e1] at h;simp at h
      rw [if_neg e1] at h ⊢
      by_cases e2:XE s (i+k) < lo
      · rw [if_pos e2] at h;simp at h
      rw [if_neg e2] at h ⊢
      by_cases e3:hi < XE s (i+k)
      · rw [if_pos e3] at h;simp at h
      rw [if_neg e3] at h ⊢
      exact Xqi s i n f (k+1) _ _ _ h (by omega) (by omega) (by omega) (fun _=>by rw [Nat.add_sub_cancel];omega)
    · rw [if_neg hk] at h ⊢
      have:k=n:=by omega
      subst this
      exact ⟨rfl,h5⟩
theorem XwD {s:ByteArray} {i:Nat} (hi:i < s.size) (h:(Xoi s i).2.2=true):1≤(Xoi s i).2.1∧(Xoi s i).2.1≤4∧i+(Xoi s i).2.1≤s.size:=by
  unfold Xoi at h ⊢
  dsimp only at h ⊢
  have h4:=XsP (XE s i)
  by_cases c0:tlN (XE s i)=0
  · rw [if_pos c0] at h;simp at h
  rw [if_neg c0] at h ⊢
  by_cases c1:tlN (XE s i)=1
  · rw [if_pos c1];simp only;omega
  rw [if_neg c1] at h ⊢
  obtain ⟨h1,h2⟩:=Xqi s i _ _ 1 _ _ _ h (by omega) (by omega) (by omega) (by omega)
  rw [h1]
  have:=h2 (by omega)
  omega
def XmK (s:ByteArray):Nat→Nat→Int
  | 0,_=>-1
  | f+1,i=>if i < s.size then if (Xoi s i).2.2=true then XmK s f (i+(Xoi s i).2.1) else i else -1
def Xgo (s:ByteArray):Int:=XmK s (s.size+1) 0
set_option maxHeartbeats 16000000 in
theorem XqK (s:ByteArray) (hs:s.size≤1000000):Iso Tryz.prog 33 [S s] (fun p=>p=I (Xgo s)):=by
  have hG:=Xd
  refine Xb Tryz.func33 rfl rfl rfl ?_
  repeat(first|refine Zes ?_)
  refine Xg (S:=Nat × Nat) (fun st=>[(0,S s),(3,I st.1)]) (fun st G=>st.1≤s.size∧s.size+1 - st.1≤st.2∧Xgo s=XmK s st.2 st.1∧Has G []) (fun st=>s.size - st.1) (0,s.size+1)
    (.cons rfl (.cons rfl (.nil _))) ⟨Nat.zero_le _,by dsimp only;omega,rfl,hG⟩ ?_
  clear hG
  rintro ⟨i,f⟩ G ⟨hi,hf,hd,hG⟩
  dsimp only at hi hf hd ⊢
  obtain ⟨f,rfl⟩:∃ g,f=g+1:=⟨f - 1,by omega⟩
  rw [XmK] at hd
  by_cases hil:i < s.size
  · rw [if_pos hil] at hd
    have hk:=Xn6 s i hs hil
    have ht:∀ c ∈ [S s,I i],Xk c:=TreeL.cons (Xk.v _) (TreeL.cons (Xk.v _) TreeL.nil)
    have hok:=XwD (s:=s) hil
    generalize Xoi s i=r at hk hd hok
    obtain ⟨p,n,b⟩:=r
    dsimp only at hk hd hok
    cases b with
    | true =>
      rw [if_pos rfl] at hd
      obtain ⟨o1,o2,o3⟩:=hok rfl
      repeat(first|refine Zes ?_|refine ZJ ?_|(refine Zak ?_;rintro _ rfl)|refine Z0 ?_|refine Z8 ?_|refine ZY ?_|refine Z1 ?_)
      exact ⟨(i+n,f),by dsimp only;omega,.cons rfl (.cons (by rfl) (.nil _)),by dsimp only;omega,by dsimp only;omega,hd,hG⟩
    | false =>
      rw [if_neg (by simp)] at hd
      repeat(first|refine Zes ?_|(refine Zak ?_;rintro _ rfl)|refine Z0 ?_|refine Z8 ?_)
      refine ZaK ?_
      rw [hd]
  rw [if_neg hil] at hd
  repeat(first|refine Zes ?_|refine Z0 ?_)
  refine ZaK ?_
  rw [hd];rfl
def XbH (s:ByteArray):Bool:=decide (Xgo s < 0)
set_option maxHeartbeats 4000000 in
theorem Xbx (s:ByteArray) (hs:s.size≤1000000):Iso Tryz.prog 10 [S s] (fun p=>p=B (XbH s)):=by
  have hG:=Xd
  have hk:=XqK s hs
  have ht:∀ c ∈ [S s],Xk c:=TreeL.cons (Xk.v _) TreeL.nil
  refine Xb Tryz.func10 rfl rfl rfl ?_
  unfold XbH
  generalize Xgo s=x at hk ⊢
  by_cases h:x < 0
  · repeat(first|refine Zes ?_|(refine Zak ?_;rintro _ rfl))
    exact XI rfl rfl (.refl _) (.v _) (by rw [decide_eq_true h];rfl)
  · repeat(first|refine Zes ?_|(refine Zak ?_;rintro _ rfl))
    exact XI rfl rfl (.refl _) (.v _) (by rw [decide_eq_false h];rfl)
def Xvm (s:ByteArray) (i:Nat):Bool:=!decide (Xsx .u8 (XE s i:Nat) 192=128)
def XwG (s:ByteArray):Nat→Nat
  | 0=>0
  | i+1=>XwG s i+if Xvm s i=true then 1 else 0
def XmW (s:ByteArray):Nat:=XwG s s.size
theorem Xqj (s:ByteArray):∀ i,XwG s i≤i
  | 0=>Nat.le_refl 0
  | i+1=>by have:=Xqj s i;rw [XwG];split <;> omega
set_option maxHeartbeats 16000000 in
theorem XqL (s:ByteArray) (hs:s.size≤1000000):Iso Tryz.prog 28 [S s] (fun p=>p=.tup [I (if XbH s=true then XmW s else 0),I (if XbH s=true then 0 else 12)]):=by
  have hG:=Xd
  have hk:=Xbx s hs
  have ht:∀ c ∈ [S s],Xk c:=TreeL.cons (Xk.v _) TreeL.nil
  refine Xb Tryz.func28 rfl rfl rfl ?_
  cases hv:XbH s with
  | false =>
    rw [hv] at hk
    repeat(first|refine Zes ?_|(refine Zak ?_;rintro _ rfl))
    exact Zbw
  | true =>
    rw [hv] at hk
    repeat(first|refine Zes ?_|(refine Zak ?_;rintro _ rfl)|refine Z0 ?_)
    refine Xg (S:=Nat) (fun i=>[(0,S s),(2,I (XwG s i)),(9,I s.size),(10,I i)]) (fun i G=>i≤s.size∧Has G []) (fun i=>s.size - i) 0
      (.cons rfl (.cons rfl (.cons rfl (.cons rfl (.nil _))))) ⟨Nat.zero_le _,hG⟩ ?_
    clear hG hk
    rintro i G ⟨hi,hG⟩
    by_cases hil:i < s.size
    · have hc:=Xqj s i
      have ho:∀ {o:Oper} {E:Env} {H:Xi} {x y:Operand},o.op=.index 9 x y→E.ev x=some (S s)→E.ev y=some (I i)→OpV Tryz.prog o E H (U (XE s i)):=fun h1 h2 h3=>Xgs (P:=Tryz.prog) (H:=‹_›) h1 h2 h3 (by omega)
      have e:XwG s (i+1)=XwG s i+if Xvm s i=true then 1 else 0:=rfl
      unfold Xvm at e
      by_cases hq:Xsx .u8 (XE s i:Nat) 192=128
      · rw [if_neg (by rw [decide_eq_true hq];simp)] at e
        repeat(first|refine Zes ?_|refine ZaR ?_|refine ZbR ?_)
        exact ZdA
      · rw [if_pos (by rw [decide_eq_false hq];rfl)] at e
        repeat(first|refine Zes ?_|refine ZJ ?_|refine ZaR ?_|refine ZbR ?_)
        exact ZdA
    have ei:i=s.size:=by omega
    subst ei
    repeat(first|refine Zes ?_)
    exact Zbw
end Go.Proofs.YtlcphjcpoinolaaGreat
