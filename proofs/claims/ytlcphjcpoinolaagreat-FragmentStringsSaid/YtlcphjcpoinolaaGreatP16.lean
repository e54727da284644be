/- Part of the proof: the walk over the program and its laws: Va Vb. -/
import Derived.Test.YtlcphjcpoinolaaGreatP0
import Derived.Test.YtlcphjcpoinolaaGreatP12
set_option linter.unusedVariables false
namespace Go.Proofs.YtlcphjcpoinolaaGreat
open Go.RowKit Go.Th
set_option maxRecDepth 20000
def U (n:Nat):PV:=.v (.int .u8 (n:Nat))
def tlN (b:Nat):Nat:=if b < 128 then 1 else if b < 194 then 0 else if 244 < b then 0 else if b < 224 then 2 else if b < 240 then 3 else 4
def Xfk (b:Nat):Nat:=if b=224 then 160 else if b=240 then 144 else 128
def Xfl (b:Nat):Nat:=if b=237 then 159 else if b=244 then 143 else 191
theorem Xs2 (b:Nat):tlN b≤4:=by unfold tlN;(repeat' split) <;> omega
set_option maxHeartbeats 16000000 in
theorem Xrm (b:Nat) (hb:b < 256):Iso Tryz.prog 147 [U b] (fun p=>p=.tup [U (Xfk b),U (Xfl b),I (tlN b)]):=by
  have hG:=Xc
  refine Xb Tryz.func147 rfl rfl rfl ?_
  by_cases c1:b < 128
  · rw [show tlN b=1 from by unfold tlN;(repeat' split) <;> omega,show Xfk b=128 from by unfold Xfk;(repeat' split) <;> omega,show Xfl b=191 from by unfold Xfl;(repeat' split) <;> omega]
    repeat(first|refine Zd1 ?_|refine ZJ ?_)
    exact Zat
  by_cases c2:b < 194
  · rw [show tlN b=0 from by unfold tlN;(repeat' split) <;> omega,show Xfk b=128 from by unfold Xfk;(repeat' split) <;> omega,show Xfl b=191 from by unfold Xfl;(repeat' split) <;> omega]
    repeat(first|refine Zd1 ?_|refine ZJ ?_)
    exact Zat
  by_cases c3:244 < b
  · rw [show tlN b=0 from by unfold tlN;(repeat' split) <;> omega,show Xfk b=128 from by unfold Xfk;(repeat' split) <;> omega,show Xfl b=191 from by unfold Xfl;(repeat' split) <;> omega]
    repeat(first|refine Zd1 ?_|refine ZJ ?_)
    exact Zat
  by_cases c4:b < 224
  · rw [show tlN b=2 from by unfold tlN;(repeat' split) <;> omega,show Xfk b=128 from by unfold Xfk;(repeat' split) <;> omega,show Xfl b=191 from by unfold Xfl;(repeat' split) <;> omega]
    repeat(first|refine Zd1 ?_|refine ZJ ?_)
    exact Zat
  by_cases c5:b < 240
  · rw [show tlN b=3 from by unfold tlN;(repeat' split) <;> omega]
    by_cases d1:b=224
    · rw [show Xfk b=160 from by unfold Xfk;(repeat' split) <;> omega,show Xfl b=191 from by unfold Xfl;(repeat' split) <;> omega]
      repeat(first|refine Zd1 ?_|refine ZJ ?_)
      exact Zat
    by_cases d2:b=237
    · rw [show Xfk b=128 from by unfold Xfk;(repeat' split) <;> omega,show Xfl b=159 from by unfold Xfl;(repeat' split) <;> omega]
      repeat(first|refine Zd1 ?_|refine ZJ ?_)
      exact Zat
    · rw [show Xfk b=128 from by unfold Xfk;(repeat' split) <;> omega,show Xfl b=191 from by unfold Xfl;(repeat' split) <;> omega]
      repeat(first|refine Zd1 ?_|refine ZJ ?_)
      exact Zat
  rw [show tlN b=4 from by unfold tlN;(repeat' split) <;> omega]
  by_cases d1:b=240
  · rw [show Xfk b=144 from by unfold Xfk;(repeat' split) <;> omega,show Xfl b=191 from by unfold Xfl;(repeat' split) <;> omega]
    repeat(first|refine Zd1 ?_|refine ZJ ?_)
    exact Zat
  by_cases d2:b=244
  · rw [show Xfk b=128 from by unfold Xfk;(repeat' split) <;> omega,show Xfl b=143 from by unfold Xfl;(repeat' split) <;> omega]
    repeat(first|refine Zd1 ?_|refine ZJ ?_)
    exact Zat
  · rw [show Xfk b=128 from by unfold Xfk;(repeat' split) <;> omega,show Xfl b=191 from by unfold Xfl;(repeat' split) <;> omega]
    repeat(first|refine Zd1 ?_|refine ZJ ?_)
    exact Zat
def XhX (s:ByteArray) (i n:Nat):Nat→Nat→Int→Nat→Nat→Int × Nat × Bool
  | 0,k,p,_,_=>(p,k,true)
  | f+1,k,p,lo,hi =>
    if k < n then
      if s.size≤i+k then (0,k,false) else if Xd s (i+k) < lo then (0,k,false) else if hi < Xd s (i+k) then (0,k,false)
      else XhX s i n f (k+1) (orK .i64 (Xs7 .i64 p 6) (Xgn .i64 (Xd s (i+k):Nat) 63)) 128 191
    else (p,k,true)
def Xgw (s:ByteArray) (i:Nat):Int × Nat × Bool :=
  let b:=Xd s i
  if tlN b=0 then (0,0,false) else if tlN b=1 then ((b:Nat),1,true) else XhX s i (tlN b) (tlN b) 1 (Xgn .i64 (b:Nat) (XgU .i64 127 (tlN b:Nat))) (Xfk b) (Xfl b)
theorem XjT {n:Nat} (h:n < 256):IntKind.i64.wrap (n:Int)=(n:Int):=by rw [IntKind.wrap_i64];omega
set_option maxHeartbeats 64000000 in
theorem Xix (s:ByteArray) (i:Nat) (hs:s.size≤1000000) (hi:i < s.size):Iso Tryz.prog 86 [S s,I i] (fun p=>p=.tup [I (Xgw s i).1,I (Xgw s i).2.1,B (Xgw s i).2.2]):=by
  have hG:=Xc
  refine Xb Tryz.func86 rfl rfl rfl ?_
  have hb:=Xav s i
  have ht:=Xrm (Xd s i) hb
  have hw:=XjT hb
  have hn4:=Xs2 (Xd s i)
  have tU:∀ c ∈ [U (Xd s i)],Xi c:=TreeL.cons (Xi.v _) TreeL.nil
  unfold Xgw
  dsimp only
  generalize hbb:Xd s i=b at ht hb hw tU hn4 ⊢
  have ho:∀ {o:Oper} {E:Env} {H:Xh} {x y:Operand},o.op=.index 9 x y→E.ev x=some (S s)→E.ev y=some (I i)→OpV Tryz.prog o E H (U b):=fun h1 h2 h3=>by
    have:=XeL (P:=Tryz.prog) (H:=‹_›) h1 h2 h3 (by omega)
    rw [show ((i:Nat):Int).toNat=i from rfl,hbb] at this
    exact this
  generalize hn:tlN b=n at ht hn4 ⊢
  by_cases c0:n=0
  · rw [if_pos c0]
    repeat(first|refine Zd1 ?_|refine ZaQ ?_|(refine Zcg ?_;rintro _ rfl)|refine ZS ?_)
    exact Zat
  rw [if_neg c0]
  by_cases c1:n=1
  · rw [if_pos c1]
    repeat(first|refine Zd1 ?_|refine ZaQ ?_|(refine Zcg ?_;rintro _ rfl)|refine Zch ?_|refine ZS ?_)
    exact Zat
  rw [if_neg c1]
  repeat(first|refine Zd1 ?_|refine ZaQ ?_|(refine Zcg ?_;rintro _ rfl)|refine Zch ?_|refine Xj rfl rfl (by decide) (Xgc rfl rfl rfl (by omega)) ?_|refine ZbF ?_|refine ZS ?_)
  refine Xg (S:=Nat × Int × Nat × Nat) (fun st=>[(0,S s),(1,I i),(4,I st.2.1),(5,I st.1),(8,U st.2.2.1),(9,U st.2.2.2),(10,I n)])
    (fun st G=>st.1≤n∧1≤st.1∧XhX s i n n 1 (Xgn .i64 (b:Nat) (XgU .i64 127 (n:Nat))) (Xfk b) (Xfl b)=XhX s i n (n+1 - st.1) st.1 st.2.1 st.2.2.1 st.2.2.2∧Has G []) (fun st=>n - st.1) (1,Xgn .i64 (b:Nat) (XgU .i64 127 (n:Nat)),Xfk b,Xfl b)
    (.cons rfl (.cons rfl (.cons rfl (.cons rfl (.cons rfl (.cons rfl (.cons rfl (.nil _)))))))) ⟨by dsimp only;omega,by dsimp only;omega,by dsimp only;rw [show n+1 - 1=n from by omega],hG⟩ ?_
  clear hG ho ht
  rintro ⟨k,p,lo,hi'⟩ G ⟨hk,hk1,hd,hG⟩
  dsimp only at hk hk1 hd ⊢
  by_cases hkn:k < n
  · rw [show n+1 - k=(n - k)+1 from by omega,XhX,if_pos hkn] at hd
    by_cases e1:s.size≤i+k
    · rw [if_pos e1] at hd
      repeat(first|refine Zd1 ?_|refine ZO ?_)
      refine ZbG ?_
      rw [hd];rfl
    rw [if_neg e1] at hd
    have hb2:=Xav s (i+k)
    have hw2:=XjT hb2
    have ho:∀ {o:Oper} {E:Env} {H:Xh} {x y:Operand},o.op=.index 9 x y→E.ev x=some (S s)→E.ev y=some (I ((i:Int)+k))→OpV Tryz.prog o E H (U (Xd s (i+k))):=fun h1 h2 h3=>by
      have:=XeL (P:=Tryz.prog) (H:=‹_›) h1 h2 h3 (by omega)
      rw [show ((i:Int)+k).toNat=i+k from by omega] at this
      exact this
    generalize Xd s (i+k)=c at hd hb2 hw2 ho
    by_cases e2:c < lo
    · rw [if_pos e2] at hd
      repeat(first|refine Zd1 ?_|refine ZaQ ?_|refine ZO ?_)
      refine ZbG ?_
      rw [hd];rfl
    rw [if_neg e2] at hd
    by_cases e3:hi' < c
    · rw [if_pos e3] at hd
      repeat(first|refine Zd1 ?_|refine ZaQ ?_|refine ZO ?_)
      refine ZbG ?_
      rw [hd];rfl
    rw [if_neg e3] at hd
    repeat(first|refine Zd1 ?_|refine ZJ ?_|refine ZaQ ?_|refine Xj rfl rfl (by decide) (Xaa rfl rfl (by exact hw2)) ?_|refine Xj rfl rfl (by decide) (XwV rfl rfl rfl (by decide)) ?_|refine ZbF ?_|refine Xj rfl rfl (by decide) (Xfe rfl rfl rfl) ?_|refine ZO ?_)
    exact ⟨(k+1,orK .i64 (Xs7 .i64 p 6) (Xgn .i64 (c:Nat) 63),128,191),by dsimp only;omega,.cons rfl (.cons rfl (.cons rfl (.cons rfl (.cons rfl (.cons rfl (.cons rfl (.nil _))))))),by dsimp only;omega,by dsimp only;omega,by dsimp only;rw [hd];congr 1;omega,hG⟩
  have ek:k=n:=by omega
  rw [show n+1 - k=0+1 from by omega,XhX,if_neg hkn] at hd
  repeat(first|refine Zd1 ?_)
  refine ZbG ?_
  rw [hd];rfl
end Go.Proofs.YtlcphjcpoinolaaGreat
namespace Go.Proofs.YtlcphjcpoinolaaGreat
open Go.RowKit Go.Th
set_option maxRecDepth 20000
theorem XqF (s:ByteArray) (i n:Nat):∀ (f k:Nat) (p:Int) (lo hi:Nat),(XhX s i n f k p lo hi).2.2=true→k+f=n+1→k≤n→1≤k→(1 < k→i+(k - 1) < s.size) →
    (XhX s i n f k p lo hi).2.1=n∧(1 < n→i+(n - 1) < s.size)
  | 0,k,p,lo,hi,_,h2,h3,_,_=>by omega
  | f+1,k,p,lo,hi,h,h2,h3,h4,h5=>by
    rw [XhX] at h ⊢
    by_cases hk:k < n
    · rw [if_pos hk] at h ⊢
      by_cases e1:s.size≤i+k
      · rw [if_pos e1] at h;simp at h
      rw [if_neg e1] at h ⊢
      by_cases e2:Xd s (i+k) < lo
      · rw [if_pos e2] at h;simp at h
      rw [if_neg e2] at h ⊢
      by_cases e3:hi < Xd s (i+k)
      · rw [if_pos e3] at h;simp at h
      rw [if_neg e3] at h ⊢
      exact XqF s i n f (k+1) _ _ _ h (by omega) (by omega) (by omega) (fun _=>by rw [Nat.add_sub_cancel];omega)
    · rw [if_neg hk] at h ⊢
      have:k=n:=by omega
      subst this
      exact ⟨rfl,h5⟩
theorem Xml {s:ByteArray} {i:Nat} (hi:i < s.size) (h:(Xgw s i).2.2=true):1≤(Xgw s i).2.1∧(Xgw s i).2.1≤4∧i+(Xgw s i).2.1≤s.size:=by
  unfold Xgw at h ⊢
  dsimp only at h ⊢
  have h4:=Xs2 (Xd s i)
  by_cases c0:tlN (Xd s i)=0
  · rw [if_pos c0] at h;simp at h
  rw [if_neg c0] at h ⊢
  by_cases c1:tlN (Xd s i)=1
  · rw [if_pos c1];simp only;omega
  rw [if_neg c1] at h ⊢
  obtain ⟨h1,h2⟩:=XqF s i _ _ 1 _ _ _ h (by omega) (by omega) (by omega) (by omega)
  rw [h1]
  have:=h2 (by omega)
  omega
def XdY (s:ByteArray):Nat→Nat→Int
  | 0,_=>-1
  | f+1,i=>if i < s.size then if (Xgw s i).2.2=true then XdY s f (i+(Xgw s i).2.1) else i else -1
def Xfw (s:ByteArray):Int:=XdY s (s.size+1) 0
set_option maxHeartbeats 16000000 in
theorem Xq4 (s:ByteArray) (hs:s.size≤1000000):Iso Tryz.prog 33 [S s] (fun p=>p=I (Xfw s)):=by
  have hG:=Xc
  refine Xb Tryz.func33 rfl rfl rfl ?_
  repeat(first|refine Zd1 ?_)
  refine Xg (S:=Nat × Nat) (fun st=>[(0,S s),(3,I st.1)]) (fun st G=>st.1≤s.size∧s.size+1 - st.1≤st.2∧Xfw s=XdY s st.2 st.1∧Has G []) (fun st=>s.size - st.1) (0,s.size+1)
    (.cons rfl (.cons rfl (.nil _))) ⟨Nat.zero_le _,by dsimp only;omega,rfl,hG⟩ ?_
  clear hG
  rintro ⟨i,f⟩ G ⟨hi,hf,hd,hG⟩
  dsimp only at hi hf hd ⊢
  obtain ⟨f,rfl⟩:∃ g,f=g+1:=⟨f - 1,by omega⟩
  rw [XdY] at hd
  by_cases hil:i < s.size
  · rw [if_pos hil] at hd
    have hk:=Xix s i hs hil
    have ht:∀ c ∈ [S s,I i],Xi c:=TreeL.cons (Xi.v _) (TreeL.cons (Xi.v _) TreeL.nil)
    have hok:=Xml (s:=s) hil
    generalize Xgw s i=r at hk hd hok
    obtain ⟨p,n,b⟩:=r
    dsimp only at hk hd hok
    cases b with
    | true =>
      rw [if_pos rfl] at hd
      obtain ⟨o1,o2,o3⟩:=hok rfl
      repeat(first|refine Zd1 ?_|refine ZJ ?_|(refine Zan ?_;rintro _ rfl)|refine ZO ?_|refine ZS ?_|refine ZN ?_|refine ZU ?_)
      exact ⟨(i+n,f),by dsimp only;omega,.cons rfl (.cons (by rfl) (.nil _)),by dsimp only;omega,by dsimp only;omega,hd,hG⟩
    | false =>
      rw [if_neg (by simp)] at hd
      repeat(first|refine Zd1 ?_|(refine Zan ?_;rintro _ rfl)|refine ZO ?_|refine ZS ?_)
      refine ZaF ?_
      rw [hd]
  rw [if_neg hil] at hd
  repeat(first|refine Zd1 ?_|refine ZO ?_)
  refine ZaF ?_
  rw [hd];rfl
def XaZ (s:ByteArray):Bool:=decide (Xfw s < 0)
set_option maxHeartbeats 4000000 in
theorem Xby (s:ByteArray) (hs:s.size≤1000000):Iso Tryz.prog 10 [S s] (fun p=>p=B (XaZ s)):=by
  have hG:=Xc
  have hk:=Xq4 s hs
  have ht:∀ c ∈ [S s],Xi c:=TreeL.cons (Xi.v _) TreeL.nil
  refine Xb Tryz.func10 rfl rfl rfl ?_
  unfold XaZ
  generalize Xfw s=x at hk ⊢
  by_cases h:x < 0
  · repeat(first|refine Zd1 ?_|(refine Zan ?_;rintro _ rfl))
    exact XJ rfl rfl (.refl _) (.v _) (by rw [decide_eq_true h];rfl)
  · repeat(first|refine Zd1 ?_|(refine Zan ?_;rintro _ rfl))
    exact XJ rfl rfl (.refl _) (.v _) (by rw [decide_eq_false h];rfl)
def Xvk (s:ByteArray) (i:Nat):Bool:=!decide (Xgn .u8 (Xd s i:Nat) 192=128)
def XwJ (s:ByteArray):Nat→Nat
  | 0=>0
  | i+1=>XwJ s i+if Xvk s i=true then 1 else 0
def Xcu (s:ByteArray):Nat:=XwJ s s.size
theorem Xjz (s:ByteArray):∀ i,XwJ s i≤i
  | 0=>Nat.le_refl 0
  | i+1=>by have:=Xjz s i;rw [XwJ];split <;> omega
set_option maxHeartbeats 16000000 in
theorem XhQ (s:ByteArray) (hs:s.size≤1000000):Iso Tryz.prog 28 [S s] (fun p=>p=.tup [I (if XaZ s=true then Xcu s else 0),I (if XaZ s=true then 0 else 12)]):=by
  have hG:=Xc
  have hk:=Xby s hs
  have ht:∀ c ∈ [S s],Xi c:=TreeL.cons (Xi.v _) TreeL.nil
  refine Xb Tryz.func28 rfl rfl rfl ?_
  cases hv:XaZ s with
  | false =>
    rw [hv] at hk
    repeat(first|refine Zd1 ?_|(refine Zan ?_;rintro _ rfl))
    exact Zbk
  | true =>
    rw [hv] at hk
    repeat(first|refine Zd1 ?_|(refine Zan ?_;rintro _ rfl)|refine ZO ?_)
    refine Xg (S:=Nat) (fun i=>[(0,S s),(2,I (XwJ s i)),(9,I s.size),(10,I i)]) (fun i G=>i≤s.size∧Has G []) (fun i=>s.size - i) 0
      (.cons rfl (.cons rfl (.cons rfl (.cons rfl (.nil _))))) ⟨Nat.zero_le _,hG⟩ ?_
    clear hG hk
    rintro i G ⟨hi,hG⟩
    by_cases hil:i < s.size
    · have hc:=Xjz s i
      have ho:∀ {o:Oper} {E:Env} {H:Xh} {x y:Operand},o.op=.index 9 x y→E.ev x=some (S s)→E.ev y=some (I i)→OpV Tryz.prog o E H (U (Xd s i)):=fun h1 h2 h3=>XeL (P:=Tryz.prog) (H:=‹_›) h1 h2 h3 (by omega)
      have e:XwJ s (i+1)=XwJ s i+if Xvk s i=true then 1 else 0:=rfl
      unfold Xvk at e
      by_cases hq:Xgn .u8 (Xd s i:Nat) 192=128
      · rw [if_neg (by rw [decide_eq_true hq];simp)] at e
        repeat(first|refine Zd1 ?_|refine ZaQ ?_|refine ZbF ?_)
        exact Zc7
      · rw [if_pos (by rw [decide_eq_false hq];rfl)] at e
        repeat(first|refine Zd1 ?_|refine ZJ ?_|refine ZaQ ?_|refine ZbF ?_)
        exact Zc7
    have ei:i=s.size:=by omega
    subst ei
    repeat(first|refine Zd1 ?_)
    exact Zbk
end Go.Proofs.YtlcphjcpoinolaaGreat
