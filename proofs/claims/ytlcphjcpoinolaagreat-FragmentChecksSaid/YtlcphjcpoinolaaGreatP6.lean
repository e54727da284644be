/- Part of the proof: the walk over the program and its laws: Va. -/
import Derived.Test.YtlcphjcpoinolaaGreatP0
import Derived.Test.YtlcphjcpoinolaaGreatP5
set_option linter.unusedVariables false
namespace Go.Proofs.YtlcphjcpoinolaaGreat
open Go.RowKit Go.Th
set_option maxRecDepth 20000
def U (n:Nat):PV:=.v (.int .u8 (n:Nat))
def tlN (b:Nat):Nat:=if b < 128 then 1 else if b < 194 then 0 else if 244 < b then 0 else if b < 224 then 2 else if b < 240 then 3 else 4
def Xgd (b:Nat):Nat:=if b=224 then 160 else if b=240 then 144 else 128
def Xge (b:Nat):Nat:=if b=237 then 159 else if b=244 then 143 else 191
theorem XsP (b:Nat):tlN b≤4:=by unfold tlN;(repeat' split) <;> omega
set_option maxHeartbeats 16000000 in
theorem Xq0 (b:Nat) (hb:b < 256):Iso Tryz.prog 147 [U b] (fun p=>p=.tup [U (Xgd b),U (Xge b),I (tlN b)]):=by
  have hG:=Xd
  refine Xb Tryz.func147 rfl rfl rfl ?_
  by_cases c1:b < 128
  · rw [show tlN b=1 from by unfold tlN;(repeat' split) <;> omega,show Xgd b=128 from by unfold Xgd;(repeat' split) <;> omega,show Xge b=191 from by unfold Xge;(repeat' split) <;> omega]
    repeat(first|refine Zes ?_|refine ZJ ?_)
    exact Zax
  by_cases c2:b < 194
  · rw [show tlN b=0 from by unfold tlN;(repeat' split) <;> omega,show Xgd b=128 from by unfold Xgd;(repeat' split) <;> omega,show Xge b=191 from by unfold Xge;(repeat' split) <;> omega]
    repeat(first|refine Zes ?_|refine ZJ ?_)
    exact Zax
  by_cases c3:244 < b
  · rw [show tlN b=0 from by unfold tlN;(repeat' split) <;> omega,show Xgd b=128 from by unfold Xgd;(repeat' split) <;> omega,show Xge b=191 from by unfold Xge;(repeat' split) <;> omega]
    repeat(first|refine Zes ?_|refine ZJ ?_)
    exact Zax
  by_cases c4:b < 224
  · rw [show tlN b=2 from by unfold tlN;(repeat' split) <;> omega,show Xgd b=128 from by unfold Xgd;(repeat' split) <;> omega,show Xge b=191 from by unfold Xge;(repeat' split) <;> omega]
    repeat(first|refine Zes ?_|refine ZJ ?_)
    exact Zax
  by_cases c5:b < 240
  · rw [show tlN b=3 from by unfold tlN;(repeat' split) <;> omega]
    by_cases d1:b=224
    · rw [show Xgd b=160 from by unfold Xgd;(repeat' split) <;> omega,show Xge b=191 from by unfold Xge;(repeat' split) <;> omega]
      repeat(first|refine Zes ?_|refine ZJ ?_)
      exact Zax
    by_cases d2:b=237
    · rw [show Xgd b=128 from by unfold Xgd;(repeat' split) <;> omega,show Xge b=159 from by unfold Xge;(repeat' split) <;> omega]
      repeat(first|refine Zes ?_|refine ZJ ?_)
      exact Zax
    · rw [show Xgd b=128 from by unfold Xgd;(repeat' split) <;> omega,show Xge b=191 from by unfold Xge;(repeat' split) <;> omega]
      repeat(first|refine Zes ?_|refine ZJ ?_)
      exact Zax
  rw [show tlN b=4 from by unfold tlN;(repeat' split) <;> omega]
  by_cases d1:b=240
  · rw [show Xgd b=144 from by unfold Xgd;(repeat' split) <;> omega,show Xge b=191 from by unfold Xge;(repeat' split) <;> omega]
    repeat(first|refine Zes ?_|refine ZJ ?_)
    exact Zax
  by_cases d2:b=244
  · rw [show Xgd b=128 from by unfold Xgd;(repeat' split) <;> omega,show Xge b=143 from by unfold Xge;(repeat' split) <;> omega]
    repeat(first|refine Zes ?_|refine ZJ ?_)
    exact Zax
  · rw [show Xgd b=128 from by unfold Xgd;(repeat' split) <;> omega,show Xge b=191 from by unfold Xge;(repeat' split) <;> omega]
    repeat(first|refine Zes ?_|refine ZJ ?_)
    exact Zax
def Xsi (s:ByteArray) (i n:Nat):Nat→Nat→Int→Nat→Nat→Int × Nat × Bool
  | 0,k,p,_,_=>(p,k,true)
  | f+1,k,p,lo,hi =>
    if k < n then
      if s.size≤i+k then (0,k,false) else if XE s (i+k) < lo then (0,k,false) else if hi < XE s (i+k) then (0,k,false)
      else Xsi s i n f (k+1) (orK .i64 (XAU .i64 p 6) (Xsx .i64 (XE s (i+k):Nat) 63)) 128 191
    else (p,k,true)
def Xoi (s:ByteArray) (i:Nat):Int × Nat × Bool :=
  let b:=XE s i
  if tlN b=0 then (0,0,false) else if tlN b=1 then ((b:Nat),1,true) else Xsi s i (tlN b) (tlN b) 1 (Xsx .i64 (b:Nat) (Xyi .i64 127 (tlN b:Nat))) (Xgd b) (Xge b)
theorem XjF {n:Nat} (h:n < 256):IntKind.i64.wrap (n:Int)=(n:Int):=by rw [IntKind.wrap_i64];omega
set_option maxHeartbeats 64000000 in
theorem Xn6 (s:ByteArray) (i:Nat) (hs:s.size≤1000000) (hi:i < s.size):Iso Tryz.prog 86 [S s,I i] (fun p=>p=.tup [I (Xoi s i).1,I (Xoi s i).2.1,B (Xoi s i).2.2]):=by
  have hG:=Xd
  refine Xb Tryz.func86 rfl rfl rfl ?_
  have hb:=Xhp s i
  have ht:=Xq0 (XE s i) hb
  have hw:=XjF hb
  have hn4:=XsP (XE s i)
  have tU:∀ c ∈ [U (XE s i)],Xk c:=TreeL.cons (Xk.v _) TreeL.nil
  unfold Xoi
  dsimp only
  generalize hbb:XE s i=b at ht hb hw tU hn4 ⊢
  have ho:∀ {o:Oper} {E:Env} {H:Xi} {x y:Operand},o.op=.index 9 x y→E.ev x=some (S s)→E.ev y=some (I i)→OpV Tryz.prog o E H (U b):=fun h1 h2 h3=>by
    have:=Xgs (P:=Tryz.prog) (H:=‹_›) h1 h2 h3 (by omega)
    rw [show ((i:Nat):Int).toNat=i from rfl,hbb] at this
    exact this
  generalize hn:tlN b=n at ht hn4 ⊢
  by_cases c0:n=0
  · rw [if_pos c0]
    repeat(first|refine Zes ?_|refine ZaR ?_|(refine Zcz ?_;rintro _ rfl)|refine Z8 ?_)
    exact Zax
  rw [if_neg c0]
  by_cases c1:n=1
  · rw [if_pos c1]
    repeat(first|refine Zes ?_|refine ZaR ?_|(refine Zcz ?_;rintro _ rfl)|refine Xn rfl rfl (by decide) (XaS rfl rfl (by exact hw)) ?_|refine Z8 ?_)
    exact Zax
  rw [if_neg c1]
  repeat(first|refine Zes ?_|refine ZaR ?_|(refine Zcz ?_;rintro _ rfl)|refine Xn rfl rfl (by decide) (XaS rfl rfl (by exact hw)) ?_|refine Xn rfl rfl (by decide) (XwT rfl rfl rfl (by omega)) ?_|refine ZbR ?_|refine Z8 ?_)
  refine Xg (S:=Nat × Int × Nat × Nat) (fun st=>[(0,S s),(1,I i),(4,I st.2.1),(5,I st.1),(8,U st.2.2.1),(9,U st.2.2.2),(10,I n)])
    (fun st G=>st.1≤n∧1≤st.1∧Xsi s i n n 1 (Xsx .i64 (b:Nat) (Xyi .i64 127 (n:Nat))) (Xgd b) (Xge b)=Xsi s i n (n+1 - st.1) st.1 st.2.1 st.2.2.1 st.2.2.2∧Has G []) (fun st=>n - st.1) (1,Xsx .i64 (b:Nat) (Xyi .i64 127 (n:Nat)),Xgd b,Xge b)
    (.cons rfl (.cons rfl (.cons rfl (.cons rfl (.cons rfl (.cons rfl (.cons rfl (.nil _)))))))) ⟨by dsimp only;omega,by dsimp only;omega,by dsimp only;rw [show n+1 - 1=n from by omega],hG⟩ ?_
  clear hG ho ht
  rintro ⟨k,p,lo,hi'⟩ G ⟨hk,hk1,hd,hG⟩
  dsimp only at hk hk1 hd ⊢
  by_cases hkn:k < n
  · rw [show n+1 - k=(n - k)+1 from by omega,Xsi,if_pos hkn] at hd
    by_cases e1:s.size≤i+k
    · rw [if_pos e1] at hd
      repeat(first|refine Zes ?_|refine Z0 ?_)
      refine ZbS ?_
      rw [hd];rfl
    rw [if_neg e1] at hd
    have hb2:=Xhp s (i+k)
    have hw2:=XjF hb2
    have ho:∀ {o:Oper} {E:Env} {H:Xi} {x y:Operand},o.op=.index 9 x y→E.ev x=some (S s)→E.ev y=some (I ((i:Int)+k))→OpV Tryz.prog o E H (U (XE s (i+k))):=fun h1 h2 h3=>by
      have:=Xgs (P:=Tryz.prog) (H:=‹_›) h1 h2 h3 (by omega)
      rw [show ((i:Int)+k).toNat=i+k from by omega] at this
      exact this
    generalize XE s (i+k)=c at hd hb2 hw2 ho
    by_cases e2:c < lo
    · rw [if_pos e2] at hd
      repeat(first|refine Zes ?_|refine ZaR ?_|refine Z0 ?_)
      refine ZbS ?_
      rw [hd];rfl
    rw [if_neg e2] at hd
    by_cases e3:hi' < c
    · rw [if_pos e3] at hd
      repeat(first|refine Zes ?_|refine ZaR ?_|refine Z0 ?_)
      refine ZbS ?_
      rw [hd];rfl
    rw [if_neg e3] at hd
    repeat(first|refine Zes ?_|refine ZJ ?_|refine ZaR ?_|refine Xn rfl rfl (by decide) (XaS rfl rfl (by exact hw2)) ?_|refine Xn rfl rfl (by decide) (XwU rfl rfl rfl (by decide)) ?_|refine ZbR ?_|refine Xn rfl rfl (by decide) (XqG rfl rfl rfl) ?_|refine Z0 ?_)
    exact ⟨(k+1,orK .i64 (XAU .i64 p 6) (Xsx .i64 (c:Nat) 63),128,191),by dsimp only;omega,.cons rfl (.cons rfl (.cons rfl (.cons rfl (.cons rfl (.cons rfl (.cons rfl (.nil _))))))),by dsimp only;omega,by dsimp only;omega,by dsimp only;rw [hd];congr 1;omega,hG⟩
  have ek:k=n:=by omega
  rw [show n+1 - k=0+1 from by omega,Xsi,if_neg hkn] at hd
  repeat(first|refine Zes ?_)
  refine ZbS ?_
  rw [hd];rfl
end Go.Proofs.YtlcphjcpoinolaaGreat
