/- Part of the proof: the walk over the program and its laws: Sa. -/
import Derived.Test.YtlcphjcpoinolaaGreatP0
import Derived.Test.YtlcphjcpoinolaaGreatP9
import Derived.Test.YtlcphjcpoinolaaGreatP4
set_option linter.unusedVariables false
namespace Go.Proofs.YtlcphjcpoinolaaGreat
open Go.RowKit Go.Th
set_option maxRecDepth 20000
theorem Xb1 {P:Program} {E:Env} {H:Xi} {o:Oper} {t:TypeId} {x y:Operand} [hu:HasU P t .string] {b:ByteArray} {k:IntKind} {i:Int} (c:Nat) (ho:o.op=.index t x y) (hx:E.ev x=some (.v (.string b))) (hy:E.ev y=some (.v (.int k i))) (h:0≤i∧i < b.size) (hc:XE b i.toNat=c):OpV P o E H (.v (.int .u8 (c:Nat))):=hc ▸ Xgs ho hx hy h
theorem XrV (x:Style) (id:Int):Iso Tryz.prog 158 [.agg (Xt x),.ept [I id] 0] (fun p=>p=B (decide (x.id=id))):=by
  have hG:=Xd
  refine Xb Tryz.func158 rfl rfl rfl ?_
  repeat(first|refine Zev ?_|refine Zt ?_|(refine ZH ?_;intro id G hG))
  exact ZB
def XgQ (kind:Int) (name:ByteArray) (x:Style):Bool:=if x.kind=kind then Xh0 x.name name else false
theorem Xlq (x:Style) (kind:Int) (name:ByteArray):Iso Tryz.prog 209 [.agg (Xt x),.ept [I kind] 0,.ept [S name] 0] (fun p=>p=B (XgQ kind name x)):=by
  have hG:=Xd
  refine Xb Tryz.func209 rfl rfl rfl ?_
  unfold XgQ
  by_cases h:x.kind=kind
  · rw [if_pos h]
    repeat(first|refine Zes ?_|refine Xn rfl rfl (by decide) (Xa9 rfl rfl rfl) ?_|(refine ZH ?_;intro id G hG))
    exact ZB
  · rw [if_neg h]
    repeat(first|refine Zes ?_|(refine ZH ?_;intro id G hG))
    exact ZB
def XnZ (b:Style→Bool):List Style→Nat→Int
  | [],_=>-1
  | x::r,i=>if b x=true then i else XnZ b r (i+1)
theorem XpW {b:Style→Bool}:∀ (l:List Style) (i:Nat),XnZ b l i=-1∨∃ (j:Nat) (x:Style),XnZ b l i=(i+j:Nat)∧l[j]?=some x∧b x=true
  | [],_=>.inl rfl
  | x::r,i=>by
    unfold XnZ
    split
    · exact .inr ⟨0,x,rfl,rfl,by assumption⟩
    · rcases XpW r (i+1) with h | ⟨j,y,h1,h2,h3⟩
      · exact .inl h
      · exact .inr ⟨j+1,y,by rw [h1];congr 1;omega,by simpa using h2,h3⟩
set_option maxHeartbeats 8000000 in
theorem Xfq (l:List Style) (g:FuncId) (cap:List PV) (b:Style→Bool) (hl:l.length≤1000000) (hcap:∀ c ∈ cap,Xk c) (h:∀ x ∈ l,Iso Tryz.prog g ([.agg (Xt x)]++cap) (fun p=>p=B (b x))) :
    Iso Tryz.prog 157 [XN l,.fn (.func g) cap] (fun p=>p=I (XnZ b l 0)):=by
  have hG:=Xd
  refine Xb Tryz.func157 rfl rfl rfl ?_
  repeat(first|refine Zes ?_)
  refine Xg (S:=Nat) (fun i=>[(0,XN l),(1,.fn (.func g) cap),(7,I l.length),(8,I i)]) (fun i G=>i≤l.length∧XnZ b l 0=XnZ b (l.drop i) i∧Has G []) (fun i=>l.length - i) 0
    (.cons rfl (.cons rfl (.cons rfl (.cons rfl (.nil _))))) ⟨Nat.zero_le _,rfl,hG⟩ ?_
  clear hG
  rintro i G ⟨hi,hf,hG⟩
  by_cases hil:i < l.length
  · obtain ⟨x,hx⟩:∃ x,l[i]?=some x:=⟨_,List.getElem?_eq_getElem hil⟩
    have hk:=h x (List.mem_of_getElem? hx)
    have hc:=Xp XaY l i x hx
    rw [X2 hx,XnZ] at hf
    cases hb:b x with
    | true =>
      rw [if_pos hb] at hf
      rw [hb] at hk
      repeat(first|refine Zes ?_|refine Zb5 ?_|(refine ZdU ?_;rintro _ rfl))
      exact ZaQ
    | false =>
      rw [if_neg (by rw [hb];simp)] at hf
      rw [hb] at hk
      repeat(first|refine Zes ?_|refine Zb5 ?_|(refine ZdU ?_;rintro _ rfl))
      exact Zby
  have e0:l.drop i=[]:=List.drop_eq_nil_of_le (by omega)
  rw [e0,XnZ] at hf
  repeat(first|refine Zes ?_)
  exact Zah
def Xt6 (l:List Style) (id:Int):Int:=XnZ (fun x=>decide (x.id=id)) l 0
def Xw3 (l:List Style) (kind:Int) (name:ByteArray):Int:=XnZ (XgQ kind name) l 0
set_option maxHeartbeats 8000000 in
theorem XsN (l:List Style) (id:Int) (hl:l.length≤1000000):Iso Tryz.prog 99 [XN l,I id] (fun p=>p=.tup [I (max (Xt6 l id) 0),B (decide (0≤Xt6 l id))]):=by
  have hG:=Xd
  have hk:=Xfq l 158 [.ept [I id] 0] (fun x=>decide (x.id=id)) hl (TreeL.cons (Xk.ept (TreeL.cons (Xe _) TreeL.nil)) TreeL.nil) (fun x _=>XrV x id)
  have ht:∀ c ∈ [XN l,.fn (.func 158) [.ept [I id] 0]],Xk c:=TreeL.cons (XS l) (TreeL.cons (Xk.fn (TreeL.cons (Xk.ept (TreeL.cons (Xe _) TreeL.nil)) TreeL.nil)) TreeL.nil)
  refine Xb Tryz.func99 rfl rfl rfl ?_
  unfold Xt6
  generalize XnZ (fun x=>decide (x.id=id)) l 0=k at hk ⊢
  refine Zc ?_
  refine Zb ?_
  repeat(first|refine Zd ?_|(refine ZH ?_;intro id G hG))
  refine Za ?_
  refine Xz 3 hG rfl ?_
  intro G hG
  repeat(first|refine Zes ?_|(refine Zak ?_;rintro _ rfl)|refine Z7 ?_|refine Xn rfl rfl (by decide) (Xl6 rfl rfl rfl) ?_|refine Zav ?_)
  exact XgF rfl rfl rfl (.refl _) (.refl _) (Xe _) (Xk.v _) rfl
set_option maxHeartbeats 8000000 in
theorem XkR (l:List Style) (kind:Int) (name:ByteArray) (hl:l.length≤1000000):Iso Tryz.prog 196 [XN l,I kind,S name] (fun p=>p=.tup [I (max (Xw3 l kind name) 0),B (decide (0≤Xw3 l kind name))]):=by
  have hG:=Xd
  have hcap:∀ c ∈ [PV.ept [I kind] 0,.ept [S name] 0],Xk c:=TreeL.cons (Xk.ept (TreeL.cons (Xe _) TreeL.nil)) (TreeL.cons (Xk.ept (TreeL.cons (Xad _) TreeL.nil)) TreeL.nil)
  have hk:=Xfq l 209 [.ept [I kind] 0,.ept [S name] 0] (XgQ kind name) hl hcap (fun x _=>Xlq x kind name)
  have ht:∀ c ∈ [XN l,.fn (.func 209) [.ept [I kind] 0,.ept [S name] 0]],Xk c:=TreeL.cons (XS l) (TreeL.cons (Xk.fn hcap) TreeL.nil)
  refine Xb Tryz.func196 rfl rfl rfl ?_
  unfold Xw3
  generalize XnZ (XgQ kind name) l 0=k at hk ⊢
  refine Zc ?_
  refine Zb ?_
  repeat(first|refine Zd ?_|(refine ZH ?_;intro id G hG))
  refine Za ?_
  refine Xz 5 hG rfl ?_
  intro G hG
  refine Xz 4 hG rfl ?_
  intro G hG
  repeat(first|refine Zes ?_|(refine Zak ?_;rintro _ rfl)|refine Z7 ?_|refine Xn rfl rfl (by decide) (Xl6 rfl rfl rfl) ?_|refine Zav ?_)
  exact XgF rfl rfl rfl (.refl _) (.refl _) (Xe _) (Xk.v _) rfl
def Xqc (kind:Int):Int:=if kind=1 then 2 else 1
theorem XlN (kind:Int):Iso Tryz.prog 197 [I kind] (fun p=>p=I (Xqc kind)):=by
  have hG:=Xd
  refine Xb Tryz.func197 rfl rfl rfl ?_
  unfold Xqc
  by_cases h:kind=1
  · repeat(first|refine Zes ?_)
    exact XI rfl rfl (.refl _) (.v _) (by rw [if_pos h];rfl)
  · repeat(first|refine Zes ?_)
    exact XI rfl rfl (.refl _) (.v _) (by rw [if_neg h];rfl)
def isF (l:List Style) (kind id:Int):Bool:=if 0≤Xt6 l id then (match l[(Xt6 l id).toNat]? with | some x=>decide (x.kind=kind) | none=>false) else false
set_option maxHeartbeats 8000000 in
theorem Xs8 (l:List Style) (kind id:Int) (hl:l.length≤1000000):Iso Tryz.prog 166 [XN l,I kind,I id] (fun p=>p=B (isF l kind id)):=by
  have hG:=Xd
  have hk:=XsN l id hl
  have ht:∀ c ∈ [XN l,I id],Xk c:=TreeL.cons (XS l) (TreeL.cons (Xe _) TreeL.nil)
  refine Xb Tryz.func166 rfl rfl rfl ?_
  unfold isF
  rcases XpW (b:=fun x=>decide (x.id=id)) l 0 with h | ⟨j,x,h1,h2,h3⟩
  · have h:Xt6 l id=-1:=h
    rw [h] at hk ⊢
    repeat(first|refine Zes ?_|(refine Zak ?_;rintro _ rfl)|refine Z8 ?_)
    exact ZB
  · have h1:Xt6 l id=(j:Nat):=by rw [Nat.zero_add] at h1;exact h1
    have hlt:=(List.getElem?_eq_some_iff.1 h2).1
    have hc:=Xp XaY l j x h2
    rw [h1,show max ((j:Nat):Int) 0=(j:Nat) by omega,decide_eq_true (by omega)] at hk
    rw [h1,if_pos (by omega),Int.toNat_natCast,h2]
    repeat(first|refine Zes ?_|refine Zb5 ?_|(refine Zak ?_;rintro _ rfl)|refine Z7 ?_|refine Z8 ?_)
    exact ZB
def XfF (s:ByteArray):Nat→Nat→Bool
  | 0,_=>true
  | n+1,i=>if XE s i < 32 then false else if 126 < XE s i then false else XfF s n (i+1)
def XeX (s:ByteArray):Bool:=if s.size=0 then false else if 40 < s.size then false else if XE s 0=32 then false else if XE s (s.size - 1)=32 then false else XfF s s.size 0
set_option maxHeartbeats 16000000 in
theorem Xof (s:ByteArray):Iso Tryz.prog 195 [S s] (fun p=>p=B (XeX s)):=by
  have hG:=Xd
  refine Xb Tryz.func195 rfl rfl rfl ?_
  unfold XeX
  by_cases c1:s.size=0
  · rw [if_pos c1]
    repeat(first|refine Zes ?_|refine Z0 ?_)
    exact ZB
  rw [if_neg c1]
  by_cases c2:40 < s.size
  · rw [if_pos c2]
    repeat(first|refine Zes ?_|refine Z0 ?_)
    exact ZB
  rw [if_neg c2]
  obtain ⟨a,ha⟩:∃ a,XE s 0=a:=⟨_,rfl⟩
  obtain ⟨b,hb⟩:∃ b,XE s (s.size - 1)=b:=⟨_,rfl⟩
  have hb2:XE s ((s.size:Int) - 1).toNat=b:=by rw [← hb];congr 1;omega
  rw [ha,hb]
  by_cases c3:a=32
  · rw [if_pos c3]
    repeat(first|refine Zes ?_|refine Zan ?_|refine Z0 ?_)
    exact ZB
  rw [if_neg c3]
  by_cases c4:b=32
  · rw [if_pos c4]
    repeat(first|refine Zes ?_|refine Zan ?_|refine ZdV ?_|refine Zbp ?_|refine Z0 ?_)
    exact ZB
  rw [if_neg c4]
  repeat(first|refine Zes ?_|refine Zan ?_|refine ZdV ?_|refine Zbp ?_|refine Z0 ?_)
  clear ha hb hb2 c3 c4
  refine Xg (S:=Nat) (fun i=>[(0,S s),(26,I s.size),(27,I i)]) (fun i G=>i≤s.size∧XfF s s.size 0=XfF s (s.size - i) i∧Has G []) (fun i=>s.size - i) 0
    (.cons rfl (.cons rfl (.cons rfl (.nil _)))) ⟨Nat.zero_le _,rfl,hG⟩ ?_
  clear hG
  rintro i G ⟨hi,hf,hG⟩
  by_cases hil:i < s.size
  · obtain ⟨a,ha⟩:∃ a,XE s i=a:=⟨_,rfl⟩
    rw [show s.size - i=(s.size - (i+1))+1 from by omega,XfF,ha] at hf
    by_cases c5:a < 32
    · rw [if_pos c5] at hf
      repeat(first|refine Zes ?_|refine Zan ?_)
      exact Zah
    rw [if_neg c5] at hf
    by_cases c6:126 < a
    · rw [if_pos c6] at hf
      repeat(first|refine Zes ?_|refine Zan ?_)
      exact Zah
    rw [if_neg c6] at hf
    repeat(first|refine Zes ?_|refine Zan ?_)
    exact Za4
  rw [show s.size - i=0 from by omega,XfF] at hf
  repeat(first|refine Zes ?_)
  exact Zah
end Go.Proofs.YtlcphjcpoinolaaGreat
