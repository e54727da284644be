/- Part of the proof: the walk over the program and its laws: Kc Sa Qa Qb. -/
import Derived.Test.YtlcphjcpoinolaaGreatP0
import Derived.Test.YtlcphjcpoinolaaGreatP17
import Derived.Test.YtlcphjcpoinolaaGreatP14
set_option linter.unusedVariables false
namespace Go.Proofs.YtlcphjcpoinolaaGreat
open Go.RowKit Go.Th
set_option maxRecDepth 20000
def Xtn (x:Int):List Int→Nat→Int
  | [],_=>-1
  | y::r,i=>if x=y then i else Xtn x r (i+1)
set_option maxHeartbeats 4000000 in
theorem Xq3 (l:List Int) (x:Int) (hl:l.length≤1000000):Iso Tryz.prog 217 [Xc0 l,I x] (fun p=>p=I (Xtn x l 0)):=by
  have hG:=Xc
  refine Xb Tryz.func217 rfl rfl rfl ?_
  repeat(first|refine Zd1 ?_)
  refine Xg (S:=Nat) (fun i=>[(0,Xc0 l),(1,I x),(7,I l.length),(8,I i)]) (fun i G=>i≤l.length∧Xtn x l 0=Xtn x (l.drop i) i∧Has G []) (fun i=>l.length - i) 0
    (.cons rfl (.cons rfl (.cons rfl (.cons rfl (.nil _))))) ⟨Nat.zero_le _,by simp,hG⟩ ?_
  clear hG
  rintro i G ⟨hi,hf,hG⟩
  by_cases hil:i < l.length
  · obtain ⟨y,hy⟩:∃ y,l[i]?=some y:=⟨_,List.getElem?_eq_getElem hil⟩
    have hd:=Xak hy
    have hc:=Xl8 hy
    rw [hd,Xtn] at hf
    by_cases h0:x=y
    · rw [if_pos h0] at hf
      repeat(first|refine Zd1 ?_|refine ZbE ?_)
      exact Za4
    · rw [if_neg h0] at hf
      repeat(first|refine Zd1 ?_|refine ZbE ?_)
      exact Zcj
  have e0:l.drop i=[]:=List.drop_eq_nil_of_le (by omega)
  rw [e0,Xtn] at hf
  repeat(first|refine Zd1 ?_)
  exact Zaf
def Xsv (l:List Int) (x:Int):Bool:=decide (0≤Xtn x l 0)
theorem Xlk (l:List Int) (x:Int) (hl:l.length≤1000000):Iso Tryz.prog 202 [Xc0 l,I x] (fun p=>p=B (Xsv l x)):=by
  have hG:=Xc
  have hk:=Xq3 l x hl
  have ht:∀ c ∈ [Xc0 l,I x],Xi c:=TreeL.cons (XW l) (TreeL.cons (Xi.v _) TreeL.nil)
  refine Xb Tryz.func202 rfl rfl rfl ?_
  unfold Xsv
  generalize Xtn x l 0=k at hk ⊢
  by_cases h:0≤k
  · repeat(first|refine Zd1 ?_|(refine Zan ?_;rintro _ rfl))
    exact XJ rfl rfl (.refl _) (.v _) (by rw [decide_eq_true h];rfl)
  · repeat(first|refine Zd1 ?_|(refine Zan ?_;rintro _ rfl))
    exact XJ rfl rfl (.refl _) (.v _) (by rw [decide_eq_false h];rfl)
def XdL (e:Int):List Int:=if e=1 then [1] else if e=4 then [1] else if e=5 then [1] else if e=6 then [1] else if e=2 then [1,2] else if e=3 then [3] else if e=7 then [6] else if e=9 then [4] else if e=10 then [5] else []
def Xe8 (e:Int):PV:=if XdL e=[] then .v (.slice none 0 0) else Xc0 (XdL e)
theorem Xj5 (e:Int):Xi (Xe8 e):=by unfold Xe8;split;exact Xi.v _;exact XW _
theorem XlY (e:Int):(XdL e).length≤2:=by unfold XdL;(repeat' split) <;> simp
theorem XoX (e:Int):Wk (Xe8 e) (Xc0 (XdL e)):=by
  unfold Xe8
  split
  · rename_i h;rw [h];exact .nil 1
  · exact .refl _
set_option maxHeartbeats 16000000 in
theorem Xoq (e:Int):Iso Tryz.prog 203 [I e] (fun p=>p=Xe8 e):=by
  have hG:=Xc
  refine Xb Tryz.func203 rfl rfl rfl ?_
  unfold Xe8 XdL
  by_cases c1:e=1
  · rw [if_pos c1,if_neg (by simp)]
    repeat(first|refine Zd1 ?_|(refine ZL ?_;intro id G hG))
    exact ZbI
  rw [if_neg c1]
  by_cases c4:e=4
  · rw [if_pos c4,if_neg (by simp)]
    repeat(first|refine Zd1 ?_|(refine ZL ?_;intro id G hG))
    exact ZbI
  rw [if_neg c4]
  by_cases c5:e=5
  · rw [if_pos c5,if_neg (by simp)]
    repeat(first|refine Zd1 ?_|(refine ZL ?_;intro id G hG))
    exact ZbI
  rw [if_neg c5]
  by_cases c6:e=6
  · rw [if_pos c6,if_neg (by simp)]
    repeat(first|refine Zd1 ?_|(refine ZL ?_;intro id G hG))
    exact ZbI
  rw [if_neg c6]
  by_cases c2:e=2
  · rw [if_pos c2,if_neg (by simp)]
    repeat(first|refine Zd1 ?_|(refine ZL ?_;intro id G hG))
    exact XJ rfl rfl (.own hG (k:=0) rfl rfl) (XW [1,2]) rfl
  rw [if_neg c2]
  by_cases c3:e=3
  · rw [if_pos c3,if_neg (by simp)]
    repeat(first|refine Zd1 ?_|(refine ZL ?_;intro id G hG))
    exact XJ rfl rfl (.own hG (k:=0) rfl rfl) (XW [3]) rfl
  rw [if_neg c3]
  by_cases c7:e=7
  · rw [if_pos c7,if_neg (by simp)]
    repeat(first|refine Zd1 ?_|(refine ZL ?_;intro id G hG))
    exact XJ rfl rfl (.own hG (k:=0) rfl rfl) (XW [6]) rfl
  rw [if_neg c7]
  by_cases c9:e=9
  · rw [if_pos c9,if_neg (by simp)]
    repeat(first|refine Zd1 ?_|(refine ZL ?_;intro id G hG))
    exact XJ rfl rfl (.own hG (k:=0) rfl rfl) (XW [4]) rfl
  rw [if_neg c9]
  by_cases c10:e=10
  · rw [if_pos c10,if_neg (by simp)]
    repeat(first|refine Zd1 ?_|(refine ZL ?_;intro id G hG))
    exact XJ rfl rfl (.own hG (k:=0) rfl rfl) (XW [5]) rfl
  rw [if_neg c10,if_pos rfl]
  repeat(first|refine Zd1 ?_)
  exact XJ rfl rfl (.refl _) (Xi.v _) rfl
def Xsf (k:Int):Int:=(Xjh k).getD 1 0
def XuP (k:Int):Int:=(Xjh k).getD 2 0
def Xp1 (k:Int):Int:=(Xjh k).getD 3 0
def Xl2 (e k:Int):Bool:=srB Xdv k && Xsv (XdL e) (Xsf k)
theorem XpE {k:KeyR} {x:Int} (h:k.num=Xjh x):k.group=Xsf x∧k.low=XuP x∧k.high=Xp1 x:=by
  unfold Xsf XuP Xp1;rw [← h];exact ⟨rfl,rfl,rfl⟩
set_option maxHeartbeats 4000000 in
theorem XnF (e x:Int):Iso Tryz.prog 178 [I e,I x] (fun p=>p=B (Xl2 e x)):=by
  have hG:=Xc
  have hf:=Xnq x
  have hg:=Xoq e
  refine Xb Tryz.func178 rfl rfl rfl ?_
  unfold Xl2
  cases hb:srB Xdv x with
  | false =>
    rw [hb] at hf
    repeat(first|refine Zd1 ?_|(refine ZbJ ?_;rintro _ ⟨k,rfl,h2,hk1⟩;have hone:=Xhb hk1)|(refine Za0 ?_;intro G hG)|refine ZS ?_|(refine ZD ?_;intro id G hG))
    refine Zz ?_
    repeat(first|refine Zd2 ?_)
    repeat(first|refine Zf ?_)
    exact ZE
  | true =>
    rw [hb] at hf
    repeat(first|refine Zd1 ?_|(refine ZbJ ?_;rintro _ ⟨k,rfl,h2,hk1⟩;have hone:=Xhb hk1)|(refine Za0 ?_;intro G hG)|refine ZS ?_|(refine ZD ?_;intro id G hG))
    have hC:Iso Tryz.prog 202 [Xe8 e,I k.group] (fun p=>p=B (Xsv (XdL e) (Xsf x))):=by
      rw [← (XpE h2).1]
      exact Xlg (Xlk (XdL e) k.group (by have:=XlY e;omega)) (.cons (XoX e) (.cons (.refl _) .nil))
    refine Zz ?_
    repeat(first|refine ZV ?_|refine Xty (fun _=>Iso.K rfl rfl rfl rfl hg (TreeL.cons (Xe _) TreeL.nil)) rfl (by decide) rfl rfl rfl rfl (by decide) ?_|refine Xty (fun _=>Iso.K rfl rfl rfl rfl hC (TreeL.cons (Xj5 e) (TreeL.cons (Xe _) TreeL.nil))) rfl (by decide) rfl rfl rfl rfl (by decide) ?_|refine Zd2 ?_)
    repeat(first|refine Zf ?_)
    exact ZE
def Xes (x v:Int):Int:=if srB Xdv x=false then 4 else if v < XuP x then 5 else if Xp1 x < v then 5 else 0
set_option maxHeartbeats 4000000 in
theorem XeV (x v:Int):Iso Tryz.prog 179 [I x,I v] (fun p=>p=I (Xes x v)):=by
  have hG:=Xc
  have hf:=Xnq x
  refine Xb Tryz.func179 rfl rfl rfl ?_
  unfold Xes
  cases hb:srB Xdv x with
  | false =>
    rw [hb] at hf
    repeat(first|refine Zd1 ?_|(refine ZbJ ?_;rintro _ ⟨k,rfl,h2,hk1⟩;have hone:=Xhb hk1)|(refine Za0 ?_;intro G hG)|refine ZS ?_|(refine ZD ?_;intro id G hG))
    exact ZE
  | true =>
    rw [hb] at hf
    rw [if_neg (by simp)]
    refine Zc ?_
    refine Zb ?_
    repeat(first|refine Zd ?_)
    refine Za ?_
    refine Zc ?_
    refine Zb ?_
    repeat(first|refine Ze ?_)
    refine ZbJ ?_
    rintro _ ⟨k,rfl,h2,hk1⟩
    have hone:=Xhb hk1
    obtain ⟨_,n1,n2⟩:=XpE h2
    rw [← n1,← n2]
    clear n1 n2 h2 hf
    by_cases c1:v < k.low
    · rw [if_pos c1]
      repeat(first|refine Zd1 ?_|(refine Za0 ?_;intro G hG)|refine ZS ?_|(refine ZD ?_;intro id G hG))
      exact ZE
    · rw [if_neg c1]
      by_cases c2:k.high < v
      · rw [if_pos c2]
        repeat(first|refine Zd1 ?_|(refine Za0 ?_;intro G hG)|refine ZS ?_|(refine ZD ?_;intro id G hG))
        exact ZE
      · rw [if_neg c2]
        repeat(first|refine Zd1 ?_|(refine Za0 ?_;intro G hG)|refine ZS ?_|(refine ZD ?_;intro id G hG))
        exact ZE
def ckG (e:Int):Option Int→List Prp→Int
  | _,[]=>0
  | q,p::l=>if Xl2 e p.key=false then 4 else if q=some p.key then 7 else if (match q with | some k=>decide (p.key < k) | none=>false)=true then 6 else if Xes p.key p.val=0 then ckG e (some p.key) l else Xes p.key p.val
theorem XqH (e:Int) (q:Option Int):ckG e q []=0:=by cases q <;> rfl
theorem XsC (e:Int) (q:Option Int) (p:Prp) (l:List Prp):ckG e q (p::l)=if Xl2 e p.key=false then 4 else if q=some p.key then 7 else if (match q with | some k=>decide (p.key < k) | none=>false)=true then 6 else if Xes p.key p.val=0 then ckG e (some p.key) l else Xes p.key p.val:=by cases q <;> rfl
def Xb0 (e:Int) (l:List Prp):Int:=if e < 1 then 3 else if 10 < e then 3 else ckG e none l
def Xef (l:List Prp) (i:Nat):Option Int:=if i=0 then none else (l[i - 1]?).map Prp.key
set_option maxHeartbeats 32000000 in
theorem Xll (e:Int) (l:List Prp) (hl:l.length≤1000000):Iso Tryz.prog 114 [I e,Xn l] (fun p=>p=I (Xb0 e l)):=by
  have hG:=Xc
  refine Xb Tryz.func114 rfl rfl rfl ?_
  unfold Xb0
  by_cases e1:e < 1
  · rw [if_pos e1]
    repeat(first|refine Zd1 ?_)
    exact ZE
  rw [if_neg e1]
  by_cases e2:10 < e
  · rw [if_pos e2]
    repeat(first|refine Zd1 ?_)
    exact ZE
  rw [if_neg e2]
  repeat(first|refine Zd1 ?_)
  refine Xg (S:=Nat) (fun i=>[(0,I e),(1,Xn l),(14,Xn l),(15,I l.length),(16,I i)]) (fun i G=>i≤l.length∧ckG e none l=ckG e (Xef l i) (l.drop i)∧Has G []) (fun i=>l.length - i) 0
    (.cons rfl (.cons rfl (.cons rfl (.cons rfl (.cons rfl (.nil _)))))) ⟨by omega,by simp [Xef],hG⟩ ?_
  clear hG
  rintro i G ⟨h1,hf,hG⟩
  by_cases c1:i < l.length
  · obtain ⟨p,hp⟩:∃ p,l[i]?=some p:=⟨_,List.getElem?_eq_getElem c1⟩
    have o1:Xai 2 ((l.flatMap Xa1).drop ((i:Int).toNat * 2))=some (Xa1 p):=Xu (fun x=>by cases x;rfl) l i p hp
    have hF:=XnF e p.key
    have hV:=XeV p.key p.val
    have tF:∀ c ∈ [I e,I p.key],Xi c:=TreeL.cons (Xe _) (TreeL.cons (Xe _) TreeL.nil)
    have tV:∀ c ∈ [I p.key,I p.val],Xi c:=TreeL.cons (Xe _) (TreeL.cons (Xe _) TreeL.nil)
    have hnx:Xef l (i+1)=some p.key:=by simp [Xef,hp]
    rw [Xak hp,XsC] at hf
    cases hb:Xl2 e p.key with
    | false =>
      rw [if_pos hb] at hf
      rw [hb] at hF
      repeat(first|refine Zd1 ?_|refine Zdb ?_|(refine Zaz ?_;rintro _ rfl)|(refine ZA ?_;intro G hG)|(refine ZD ?_;intro id G hG))
      exact Zaf
    | true =>
      rw [if_neg (by rw [hb];simp)] at hf
      rw [hb] at hF
      repeat(first|refine Zd1 ?_|refine Zdb ?_|(refine Zaz ?_;rintro _ rfl)|(refine ZA ?_;intro G hG)|(refine ZD ?_;intro id G hG))
      clear hF
      by_cases c2:0 < i
      · obtain ⟨q,hq⟩:∃ q,l[i - 1]?=some q:=⟨_,List.getElem?_eq_getElem (by omega)⟩
        have o2:Xai 2 ((l.flatMap Xa1).drop (((i:Int) - 1).toNat * 2))=some (Xa1 q):=by
          rw [show ((i:Int) - 1).toNat=i - 1 by omega];exact Xu (fun x=>by cases x;rfl) l (i - 1) q hq
        have hpk:Xef l i=some q.key:=by unfold Xef;rw [if_neg (by omega),hq];rfl
        rw [hpk] at hf
        by_cases c3:p.key=q.key
        · rw [if_pos (by rw [c3])] at hf
          refine Zz ?_
          repeat(first|refine ZV ?_|refine ZbK ?_|refine Zd2 ?_)
          repeat(first|refine Zd1 ?_)
          exact Zaf
        · rw [if_neg (fun h=>c3 (by injection h with h;exact h.symm))] at hf
          refine Zz ?_
          repeat(first|refine ZV ?_|refine ZbK ?_|refine Zd2 ?_)
          repeat(first|refine Zd1 ?_)
          by_cases c4:p.key < q.key
          · rw [if_pos (decide_eq_true c4)] at hf
            refine Zz ?_
            repeat(first|refine ZV ?_|refine ZbK ?_|refine Zd2 ?_)
            repeat(first|refine Zd1 ?_)
            exact Zaf
          · rw [if_neg (by simp only [decide_eq_true_eq];exact c4)] at hf
            refine Zz ?_
            repeat(first|refine ZV ?_|refine ZbK ?_|refine Zd2 ?_)
            repeat(first|refine Zd1 ?_|(refine Z2 ?_;rintro _ rfl)|refine Z8 ?_)
            by_cases c5:Xes p.key p.val=0
            · rw [if_pos c5] at hf
              repeat(first|refine Zd1 ?_)
              exact Zdc
            · rw [if_neg c5] at hf
              repeat(first|refine Zd1 ?_)
              exact Za4
      · have hpk:Xef l i=none:=by unfold Xef;rw [if_pos (by omega)]
        rw [hpk,if_neg (by simp),if_neg (by simp)] at hf
        refine Zz ?_
        repeat(first|refine Zd2 ?_)
        repeat(first|refine Zd1 ?_)
        refine Zz ?_
        repeat(first|refine Zd2 ?_)
        repeat(first|refine Zd1 ?_|(refine Z2 ?_;rintro _ rfl)|refine Z8 ?_)
        by_cases c5:Xes p.key p.val=0
        · rw [if_pos c5] at hf
          repeat(first|refine Zd1 ?_)
          exact Zdc
        · rw [if_neg c5] at hf
          repeat(first|refine Zd1 ?_)
          exact Za4
  have e0:l.drop i=[]:=List.drop_eq_nil_of_le (by omega)
  rw [e0,XqH] at hf
  repeat(first|refine Zd1 ?_)
  exact Zaf
end Go.Proofs.YtlcphjcpoinolaaGreat
namespace Go.Proofs.YtlcphjcpoinolaaGreat
open Go.RowKit Go.Th
set_option maxRecDepth 20000
theorem XhM {P:Program} {E:Env} {H:Xh} {o:Oper} {t:TypeId} {x y:Operand} [hu:HasU P t .string] {b:ByteArray} {k:IntKind} {i:Int} (c:Nat) (ho:o.op=.index t x y) (hx:E.ev x=some (.v (.string b))) (hy:E.ev y=some (.v (.int k i))) (h:0≤i∧i < b.size) (hc:Xd b i.toNat=c):OpV P o E H (.v (.int .u8 (c:Nat))):=hc ▸ XeL ho hx hy h
theorem Xr9 (x:Style) (id:Int):Iso Tryz.prog 158 [.agg (Xt x),.ept [I id] 0] (fun p=>p=B (decide (x.id=id))):=by
  have hG:=Xc
  refine Xb Tryz.func158 rfl rfl rfl ?_
  repeat(first|refine Zd3 ?_|refine Zu ?_|(refine ZI ?_;intro id G hG))
  exact ZE
def Xhf (kind:Int) (name:ByteArray) (x:Style):Bool:=if x.kind=kind then Xff x.name name else false
theorem XlS (x:Style) (kind:Int) (name:ByteArray):Iso Tryz.prog 209 [.agg (Xt x),.ept [I kind] 0,.ept [S name] 0] (fun p=>p=B (Xhf kind name x)):=by
  have hG:=Xc
  refine Xb Tryz.func209 rfl rfl rfl ?_
  unfold Xhf
  by_cases h:x.kind=kind
  · rw [if_pos h]
    repeat(first|refine Zd1 ?_|refine Zck ?_|(refine ZI ?_;intro id G hG))
    exact ZE
  · rw [if_neg h]
    repeat(first|refine Zd1 ?_|(refine ZI ?_;intro id G hG))
    exact ZE
def Xou (b:Style→Bool):List Style→Nat→Int
  | [],_=>-1
  | x::r,i=>if b x=true then i else Xou b r (i+1)
theorem Xqj {b:Style→Bool}:∀ (l:List Style) (i:Nat),Xou b l i=-1∨∃ (j:Nat) (x:Style),Xou b l i=(i+j:Nat)∧l[j]?=some x∧b x=true
  | [],_=>.inl rfl
  | x::r,i=>by
    unfold Xou
    split
    · exact .inr ⟨0,x,rfl,rfl,by assumption⟩
    · rcases Xqj r (i+1) with h | ⟨j,y,h1,h2,h3⟩
      · exact .inl h
      · exact .inr ⟨j+1,y,by rw [h1];congr 1;omega,by simpa using h2,h3⟩
set_option maxHeartbeats 8000000 in
theorem XfG (l:List Style) (g:FuncId) (cap:List PV) (b:Style→Bool) (hl:l.length≤1000000) (hcap:∀ c ∈ cap,Xi c) (h:∀ x ∈ l,Iso Tryz.prog g ([.agg (Xt x)]++cap) (fun p=>p=B (b x))) :
    Iso Tryz.prog 157 [XL l,.fn (.func g) cap] (fun p=>p=I (Xou b l 0)):=by
  have hG:=Xc
  refine Xb Tryz.func157 rfl rfl rfl ?_
  repeat(first|refine Zd1 ?_)
  refine Xg (S:=Nat) (fun i=>[(0,XL l),(1,.fn (.func g) cap),(7,I l.length),(8,I i)]) (fun i G=>i≤l.length∧Xou b l 0=Xou b (l.drop i) i∧Has G []) (fun i=>l.length - i) 0
    (.cons rfl (.cons rfl (.cons rfl (.cons rfl (.nil _))))) ⟨Nat.zero_le _,rfl,hG⟩ ?_
  clear hG
  rintro i G ⟨hi,hf,hG⟩
  by_cases hil:i < l.length
  · obtain ⟨x,hx⟩:∃ x,l[i]?=some x:=⟨_,List.getElem?_eq_getElem hil⟩
    have hk:=h x (List.mem_of_getElem? hx)
    have hc:=Xu Xa5 l i x hx
    rw [Xak hx,Xou] at hf
    cases hb:b x with
    | true =>
      rw [if_pos hb] at hf
      rw [hb] at hk
      repeat(first|refine Zd1 ?_|refine ZbL ?_|(refine Zdd ?_;rintro _ rfl))
      exact Za4
    | false =>
      rw [if_neg (by rw [hb];simp)] at hf
      rw [hb] at hk
      repeat(first|refine Zd1 ?_|refine ZbL ?_|(refine Zdd ?_;rintro _ rfl))
      exact Zcj
  have e0:l.drop i=[]:=List.drop_eq_nil_of_le (by omega)
  rw [e0,Xou] at hf
  repeat(first|refine Zd1 ?_)
  exact Zaf
def Xuf (l:List Style) (id:Int):Int:=Xou (fun x=>decide (x.id=id)) l 0
def Xw4 (l:List Style) (kind:Int) (name:ByteArray):Int:=Xou (Xhf kind name) l 0
set_option maxHeartbeats 8000000 in
theorem XsX (l:List Style) (id:Int) (hl:l.length≤1000000):Iso Tryz.prog 99 [XL l,I id] (fun p=>p=.tup [I (max (Xuf l id) 0),B (decide (0≤Xuf l id))]):=by
  have hG:=Xc
  have hk:=XfG l 158 [.ept [I id] 0] (fun x=>decide (x.id=id)) hl (TreeL.cons (Xi.ept (TreeL.cons (Xe _) TreeL.nil)) TreeL.nil) (fun x _=>Xr9 x id)
  have ht:∀ c ∈ [XL l,.fn (.func 158) [.ept [I id] 0]],Xi c:=TreeL.cons (XI l) (TreeL.cons (Xi.fn (TreeL.cons (Xi.ept (TreeL.cons (Xe _) TreeL.nil)) TreeL.nil)) TreeL.nil)
  refine Xb Tryz.func99 rfl rfl rfl ?_
  unfold Xuf
  generalize Xou (fun x=>decide (x.id=id)) l 0=k at hk ⊢
  refine Zc ?_
  refine Zb ?_
  repeat(first|refine Zd ?_|(refine ZI ?_;intro id G hG))
  refine Za ?_
  refine XD 3 hG rfl ?_
  intro G hG
  repeat(first|refine Zd1 ?_|(refine Zan ?_;rintro _ rfl)|refine Z8 ?_|refine Xj rfl rfl (by decide) (XmO rfl rfl rfl) ?_|refine ZaH ?_)
  exact Xg0 rfl rfl rfl (.refl _) (.refl _) (Xe _) (Xi.v _) rfl
set_option maxHeartbeats 8000000 in
theorem Xlj (l:List Style) (kind:Int) (name:ByteArray) (hl:l.length≤1000000):Iso Tryz.prog 196 [XL l,I kind,S name] (fun p=>p=.tup [I (max (Xw4 l kind name) 0),B (decide (0≤Xw4 l kind name))]):=by
  have hG:=Xc
  have hcap:∀ c ∈ [PV.ept [I kind] 0,.ept [S name] 0],Xi c:=TreeL.cons (Xi.ept (TreeL.cons (Xe _) TreeL.nil)) (TreeL.cons (Xi.ept (TreeL.cons (XX _) TreeL.nil)) TreeL.nil)
  have hk:=XfG l 209 [.ept [I kind] 0,.ept [S name] 0] (Xhf kind name) hl hcap (fun x _=>XlS x kind name)
  have ht:∀ c ∈ [XL l,.fn (.func 209) [.ept [I kind] 0,.ept [S name] 0]],Xi c:=TreeL.cons (XI l) (TreeL.cons (Xi.fn hcap) TreeL.nil)
  refine Xb Tryz.func196 rfl rfl rfl ?_
  unfold Xw4
  generalize Xou (Xhf kind name) l 0=k at hk ⊢
  refine Zc ?_
  refine Zb ?_
  repeat(first|refine Zd ?_|(refine ZI ?_;intro id G hG))
  refine Za ?_
  refine XD 5 hG rfl ?_
  intro G hG
  refine XD 4 hG rfl ?_
  intro G hG
  repeat(first|refine Zd1 ?_|(refine Zan ?_;rintro _ rfl)|refine Z8 ?_|refine Xj rfl rfl (by decide) (XmO rfl rfl rfl) ?_|refine ZaH ?_)
  exact Xg0 rfl rfl rfl (.refl _) (.refl _) (Xe _) (Xi.v _) rfl
def XqA (kind:Int):Int:=if kind=1 then 2 else 1
theorem Xmi (kind:Int):Iso Tryz.prog 197 [I kind] (fun p=>p=I (XqA kind)):=by
  have hG:=Xc
  refine Xb Tryz.func197 rfl rfl rfl ?_
  unfold XqA
  by_cases h:kind=1
  · repeat(first|refine Zd1 ?_)
    exact XJ rfl rfl (.refl _) (.v _) (by rw [if_pos h];rfl)
  · repeat(first|refine Zd1 ?_)
    exact XJ rfl rfl (.refl _) (.v _) (by rw [if_neg h];rfl)
def isF (l:List Style) (kind id:Int):Bool:=if 0≤Xuf l id then (match l[(Xuf l id).toNat]? with | some x=>decide (x.kind=kind) | none=>false) else false
set_option maxHeartbeats 8000000 in
theorem Xtl (l:List Style) (kind id:Int) (hl:l.length≤1000000):Iso Tryz.prog 166 [XL l,I kind,I id] (fun p=>p=B (isF l kind id)):=by
  have hG:=Xc
  have hk:=XsX l id hl
  have ht:∀ c ∈ [XL l,I id],Xi c:=TreeL.cons (XI l) (TreeL.cons (Xe _) TreeL.nil)
  refine Xb Tryz.func166 rfl rfl rfl ?_
  unfold isF
  rcases Xqj (b:=fun x=>decide (x.id=id)) l 0 with h | ⟨j,x,h1,h2,h3⟩
  · have h:Xuf l id=-1:=h
    rw [h] at hk ⊢
    repeat(first|refine Zd1 ?_|(refine Zan ?_;rintro _ rfl)|refine ZS ?_)
    exact ZE
  · have h1:Xuf l id=(j:Nat):=by rw [Nat.zero_add] at h1;exact h1
    have hlt:=(List.getElem?_eq_some_iff.1 h2).1
    have hc:=Xu Xa5 l j x h2
    rw [h1,show max ((j:Nat):Int) 0=(j:Nat) by omega,decide_eq_true (by omega)] at hk
    rw [h1,if_pos (by omega),Int.toNat_natCast,h2]
    repeat(first|refine Zd1 ?_|refine ZbL ?_|(refine Zan ?_;rintro _ rfl)|refine Z8 ?_|refine ZS ?_)
    exact ZE
def XfY (s:ByteArray):Nat→Nat→Bool
  | 0,_=>true
  | n+1,i=>if Xd s i < 32 then false else if 126 < Xd s i then false else XfY s n (i+1)
def Xe6 (s:ByteArray):Bool:=if s.size=0 then false else if 40 < s.size then false else if Xd s 0=32 then false else if Xd s (s.size - 1)=32 then false else XfY s s.size 0
set_option maxHeartbeats 16000000 in
theorem XoK (s:ByteArray):Iso Tryz.prog 195 [S s] (fun p=>p=B (Xe6 s)):=by
  have hG:=Xc
  refine Xb Tryz.func195 rfl rfl rfl ?_
  unfold Xe6
  by_cases c1:s.size=0
  · rw [if_pos c1]
    repeat(first|refine Zd1 ?_|refine ZO ?_)
    exact ZE
  rw [if_neg c1]
  by_cases c2:40 < s.size
  · rw [if_pos c2]
    repeat(first|refine Zd1 ?_|refine ZO ?_)
    exact ZE
  rw [if_neg c2]
  obtain ⟨a,ha⟩:∃ a,Xd s 0=a:=⟨_,rfl⟩
  obtain ⟨b,hb⟩:∃ b,Xd s (s.size - 1)=b:=⟨_,rfl⟩
  have hb2:Xd s ((s.size:Int) - 1).toNat=b:=by rw [← hb];congr 1;omega
  rw [ha,hb]
  by_cases c3:a=32
  · rw [if_pos c3]
    repeat(first|refine Zd1 ?_|refine Zag ?_|refine ZO ?_)
    exact ZE
  rw [if_neg c3]
  by_cases c4:b=32
  · rw [if_pos c4]
    repeat(first|refine Zd1 ?_|refine Zag ?_|refine Zde ?_|refine ZbM ?_|refine ZO ?_)
    exact ZE
  rw [if_neg c4]
  repeat(first|refine Zd1 ?_|refine Zag ?_|refine Zde ?_|refine ZbM ?_|refine ZO ?_)
  clear ha hb hb2 c3 c4
  refine Xg (S:=Nat) (fun i=>[(0,S s),(26,I s.size),(27,I i)]) (fun i G=>i≤s.size∧XfY s s.size 0=XfY s (s.size - i) i∧Has G []) (fun i=>s.size - i) 0
    (.cons rfl (.cons rfl (.cons rfl (.nil _)))) ⟨Nat.zero_le _,rfl,hG⟩ ?_
  clear hG
  rintro i G ⟨hi,hf,hG⟩
  by_cases hil:i < s.size
  · obtain ⟨a,ha⟩:∃ a,Xd s i=a:=⟨_,rfl⟩
    rw [show s.size - i=(s.size - (i+1))+1 from by omega,XfY,ha] at hf
    by_cases c5:a < 32
    · rw [if_pos c5] at hf
      repeat(first|refine Zd1 ?_|refine Zag ?_)
      exact Zaf
    rw [if_neg c5] at hf
    by_cases c6:126 < a
    · rw [if_pos c6] at hf
      repeat(first|refine Zd1 ?_|refine Zag ?_)
      exact Zaf
    rw [if_neg c6] at hf
    repeat(first|refine Zd1 ?_|refine Zag ?_)
    exact Zbj
  rw [show s.size - i=0 from by omega,XfY] at hf
  repeat(first|refine Zd1 ?_)
  exact Zaf
end Go.Proofs.YtlcphjcpoinolaaGreat
namespace Go.Proofs.YtlcphjcpoinolaaGreat
open Go.RowKit Go.Th
set_option maxRecDepth 20000
abbrev kyI:Int→Value:=fun k=>Value.int .i64 k
structure CkId where
  ic:Nat
  is:Nat
  il:Nat
  ir:Nat
  ib:Nat
  iu:Nat
structure CkE where
  es:XbC Int
  el:XbC Int
  er:XbC Int
  eb:XbC Int
  eu:XbC Int
  ts:Nat
  tl:Nat
  tr:Nat
  tb:Nat
  tu:Nat
structure CkS where
  styles:Int→Int
  lists:Int→Bool
  revs:Int→Bool
  before:Int→Bool
  used:Int→Bool
  units:Int
  e:CkE
def ckB (c:CkId) (u:Int):Blk:=⟨[.mp c.is,.mp c.il,.mp c.ir,.mp c.ib,.mp c.iu,I u],117,true⟩
def CkH (c:CkId) (s:CkS) (K:List (Nat × Blk)) (H:Xh):Prop :=
  ∃ (es el er eb eu:XbC Int) (ts tl tr tb tu:Nat),Has H ((c.ic,ckB c s.units)::(c.is,XM kyI es ts)::(c.il,XM kyI el tl)::(c.ir,XM kyI er tr)::(c.ib,XM kyI eb tb)::(c.iu,XM kyI eu tu)::K) ∧
    (∀ k,(Xdr es k).getD (I 0)=I (s.styles k))∧(∀ k,(Xdr el k).getD (B false)=B (s.lists k))∧(∀ k,(Xdr er k).getD (B false)=B (s.revs k))∧(∀ k,(Xdr eb k).getD (B false)=B (s.before k))∧((∀ k,(Xdr eu k).getD (B false)=B (s.used k))∧s.e=⟨es,el,er,eb,eu,ts,tl,tr,tb,tu⟩)
def Xr4 (key:Int):Int:=if key=1 then 2 else 1
def Xpp (s:CkS) (key v:Int):Int :=
  if key=20∨key=1 then Xbv (decide (v≠0∧s.styles v≠Xr4 key)) 25 else if key=33 then Xbv (decide (v≠0∧s.lists v=false)) 26 else 0
set_option maxHeartbeats 16000000 in
theorem Xgh (c:CkId) (s:CkS) (K:List (Nat × Blk)) (H:Xh) (hc:CkH c s K H) (key v:Int):AC Tryz.prog 115 [.ptr c.ic 0,I key,I v] H (fun p G=>p=I (Xpp s key v)∧G=H):=by
  obtain ⟨es,el,er,eb,eu,ts,tl,tr,tb,tu,hG,a1,a2,a3,a4,a5⟩:=hc
  have hwt:∀ e:Int,Iso Tryz.prog 50 [B true,I e] (fun p=>p=I (Xbv true e)):=fun e=>Xbi true e
  have hwf:∀ e:Int,Iso Tryz.prog 50 [B false,I e] (fun p=>p=I (Xbv false e)):=fun e=>Xbi false e
  have tw:∀ (b:Bool) (e:Int),∀ c ∈ [B b,I e],Xi c:=fun b e=>TreeL.cons (Xi.v _) (TreeL.cons (Xi.v _) TreeL.nil)
  refine Xw Tryz.func115 rfl rfl rfl ?_
  have st:∀ key:Int,key=20∨key=1→Xpp s key v=Xbv (decide (v≠0∧s.styles v≠Xr4 key)) 25:=fun key h=>by unfold Xpp;rw [if_pos h]
  by_cases k1:key=20
  · subst k1
    rw [st 20 (.inl rfl),show Xr4 20=1 from rfl]
    clear st
    by_cases v0:v=0
    · rw [decide_eq_false (fun h=>h.1 v0)]
      repeat(first|refine Zd1 ?_|(refine Za8 ?_;rintro _ rfl))
      exact ZaA
    by_cases v1:s.styles v=1
    · rw [decide_eq_false (fun h=>h.2 v1)]
      repeat(first|refine Zd1 ?_|refine ZbP ?_|(refine Za8 ?_;rintro _ rfl)|refine Zad ?_)
      exact ZaA
    · rw [decide_eq_true ⟨v0,v1⟩]
      repeat(first|refine Zd1 ?_|refine ZbP ?_|(refine Zcn ?_;rintro _ rfl)|refine Zad ?_)
      exact ZaA
  by_cases k2:key=1
  · subst k2
    rw [st 1 (.inr rfl),show Xr4 1=2 from rfl]
    clear st
    by_cases v0:v=0
    · rw [decide_eq_false (fun h=>h.1 v0)]
      repeat(first|refine Zd1 ?_|(refine Za8 ?_;rintro _ rfl))
      exact ZaA
    by_cases v1:s.styles v=2
    · rw [decide_eq_false (fun h=>h.2 v1)]
      repeat(first|refine Zd1 ?_|refine ZbP ?_|(refine Za8 ?_;rintro _ rfl)|refine Zad ?_)
      exact ZaA
    · rw [decide_eq_true ⟨v0,v1⟩]
      repeat(first|refine Zd1 ?_|refine ZbP ?_|(refine Zcn ?_;rintro _ rfl)|refine Zad ?_)
      exact ZaA
  clear st
  have e0:Xpp s key v=if key=33 then Xbv (decide (v≠0∧s.lists v=false)) 26 else 0:=by unfold Xpp;rw [if_neg (by omega)]
  rw [e0]
  clear e0
  by_cases k3:key=33
  · rw [if_pos k3]
    by_cases v0:v=0
    · rw [decide_eq_false (fun h=>h.1 v0)]
      repeat(first|refine Zd1 ?_|(refine Za8 ?_;rintro _ rfl))
      exact ZaA
    have a2:=a2 v
    cases v1:s.lists v with
    | true =>
      rw [v1] at a2
      rw [decide_eq_false (fun h=>by simp at h)]
      repeat(first|refine Zd1 ?_|refine Zdl ?_|(refine Za8 ?_;rintro _ rfl)|refine Zad ?_)
      exact ZaA
    | false =>
      rw [v1] at a2
      rw [decide_eq_true ⟨v0,rfl⟩]
      repeat(first|refine Zd1 ?_|refine Zdl ?_|(refine Zcn ?_;rintro _ rfl)|refine Zad ?_)
      exact ZaA
  rw [if_neg k3]
  repeat(first|refine Zd1 ?_)
  exact ZaA
end Go.Proofs.YtlcphjcpoinolaaGreat
namespace Go.Proofs.YtlcphjcpoinolaaGreat
open Go.RowKit Go.Th
set_option maxRecDepth 20000
theorem Xb7 {P:Program} {n:Nat} {Q:QA} {E:Env} {H:Xh} {c:Code} {L:List (Nat × Blk)} (hG:Has H L) (h:∀ G,Has G L→wpA P n c Q E G):wpA P n c Q E H:=h H hG
def idF (s:CkS) (i:Int):Int:=if inF i 1 1073741824=false then 18 else if s.used i=true then 18 else if s.before i=true then 7 else 0
def idN (s:CkS) (i:Int):CkS:={ s with before:=fun k=>if k=i then true else s.before k,e:={ s.e with eb:=Xgt s.e.eb s.e.tb i (B true),tb:=Xgu s.e.eb s.e.tb i } }
def idS (s:CkS) (i:Int):CkS:=if idF s i=0 then idN s i else s
set_option maxHeartbeats 16000000 in
theorem Xvh (c:CkId) (s:CkS) (K:List (Nat × Blk)) (H:Xh) (hc:CkH c s K H) (i:Int):AC Tryz.prog 181 [.ptr c.ic 0,I i] H (fun p G=>p=I (idF s i)∧CkH c (idS s i) K G):=by
  have hc0:=hc
  obtain ⟨es,el,er,eb,eu,ts,tl,tr,tb,tu,hG,a1,a2,a3,a4,a5⟩:=hc
  have hin:=Xct i 1 1073741824
  have tin:∀ c ∈ [I i,I 1,I 1073741824],Xi c:=TreeL.cons (Xe _) (TreeL.cons (Xe _) (TreeL.cons (Xe _) TreeL.nil))
  refine Xw Tryz.func181 rfl rfl rfl ?_
  have u5:=a5.1 i
  have u4:=a4 i
  cases hb:inF i 1 1073741824 with
  | false =>
    have e1:idF s i=18:=by unfold idF;rw [hb,if_pos rfl]
    have e2:idS s i=s:=by unfold idS;rw [e1,if_neg (by decide)]
    rw [e1,e2]
    rw [hb] at hin
    repeat(first|refine Zd1 ?_|(refine ZbQ ?_;rintro _ rfl))
    exact XG rfl rfl ⟨rfl,hc0⟩
  | true =>
  rw [hb] at hin
  cases hu:s.used i with
  | true =>
    have e1:idF s i=18:=by unfold idF;rw [hb,if_neg (by decide),hu,if_pos rfl]
    have e2:idS s i=s:=by unfold idS;rw [e1,if_neg (by decide)]
    rw [e1,e2]
    rw [hu] at u5
    repeat(first|refine Zd1 ?_|(refine ZbQ ?_;rintro _ rfl)|refine Zco ?_|refine Zad ?_)
    exact XG rfl rfl ⟨rfl,hc0⟩
  | false =>
  rw [hu] at u5
  cases hv:s.before i with
  | true =>
    have e1:idF s i=7:=by unfold idF;rw [hb,if_neg (by decide),hu,if_neg (by decide),hv,if_pos rfl]
    have e2:idS s i=s:=by unfold idS;rw [e1,if_neg (by decide)]
    rw [e1,e2]
    rw [hv] at u4
    repeat(first|refine Zd1 ?_|(refine ZbQ ?_;rintro _ rfl)|refine Zco ?_|refine Zdm ?_|refine Zad ?_)
    exact XG rfl rfl ⟨rfl,hc0⟩
  | false =>
    have e1:idF s i=0:=by unfold idF;rw [hb,if_neg (by decide),hu,if_neg (by decide),hv,if_neg (by decide)]
    have e2:idS s i=idN s i:=by unfold idS;rw [e1,if_pos rfl]
    rw [e1,e2]
    rw [hv] at u4
    repeat(first|refine Zd1 ?_|(refine ZbQ ?_;rintro _ rfl)|refine Zco ?_|refine Zdm ?_|(refine XiJ (XcQ .i64) 4 hG rfl rfl rfl rfl rfl rfl rfl ?_;intro G hG)|refine Zad ?_)
    refine XG rfl rfl ⟨rfl,⟨es,el,er,_,eu,ts,tl,tr,_,tu,hG,a1,a2,a3,fun k=>?_,a5.1,by unfold idN;simp only [a5.2];rfl⟩⟩
    rw [Xft]
    show _=B (if k=i then true else s.before k)
    by_cases e:k=i
    · rw [if_pos e,if_pos e];rfl
    · rw [if_neg e,if_neg e];exact a4 k
def Xtk (s:CkS) (el:Int) (l:List Lyr) (i:Nat):Int:=match l[i]? with
  | none=>0
  | some x=>if s.revs x.rev=false then 22 else if Xl2 el x.key=false then 4 else if 0 < i∧(match l[i - 1]? with | some q=>decide (x.key < q.key) | none=>false)=true then 6 else
    if x.had=false then Xbv (!decide (x.before=0)) 21 else XaA [Xes x.key x.before,Xpp s x.key x.before]
set_option maxHeartbeats 16000000 in
theorem Xr3 (c:CkId) (s:CkS) (K:List (Nat × Blk)) (H:Xh) (hc:CkH c s K H) (el:Int) (l:List Lyr) (i:Nat) (hi:i < l.length) (hl:l.length≤1000000):AC Tryz.prog 117 [.ptr c.ic 0,I el,Xx l,I i] H (fun p G=>p=I (Xtk s el l i)∧CkH c s K G):=by
  obtain ⟨x,hx⟩:∃ x,l[i]?=some x:=⟨_,List.getElem?_eq_getElem hi⟩
  have hxc:=Xu (enc:=XaD) (sz:=4) (fun x=>by cases x;rfl) l i x hx
  obtain ⟨e,he⟩:∃ e,Xtk s el l i=e:=⟨_,rfl⟩
  rw [he]
  unfold Xtk at he
  rw [hx] at he
  dsimp only at he
  obtain ⟨es,el',er,eb,eu,ts,tl,tr,tb,tu,hG,a1,a2,a3,a4,a5⟩:=hc
  have u3:=a3 x.rev
  have hF:=XnF el x.key
  have tF:∀ c ∈ [I el,I x.key],Xi c:=TreeL.cons (Xe _) (TreeL.cons (Xe _) TreeL.nil)
  refine Xw Tryz.func117 rfl rfl rfl ?_
  refine Zc ?_
  refine Zb ?_
  repeat(first|refine Zd ?_)
  refine Za ?_
  refine Zc ?_
  refine Zb ?_
  repeat(first|refine Xj rfl rfl (by decide) (Xf (cells:=l.flatMap XaD) rfl rfl rfl (by omega) (by exact hxc)) ?_|refine Zd5 ?_|(refine ZA ?_;intro G hG)|(refine ZD ?_;intro id G hG))
  refine Za ?_
  refine Xb7 (L:=(id,⟨XaD x,203,true⟩)::(c.ic,ckB c s.units)::(c.is,XM kyI es ts)::(c.il,XM kyI el' tl)::(c.ir,XM kyI er tr)::(c.ib,XM kyI eb tb)::(c.iu,XM kyI eu tu)::K) hG ?_
  clear hG
  intro G hG
  refine XbR (S:=Unit) (fun _=>[(0,.ptr c.ic 0),(9,.ptr id 0)]) (fun _ G=>Has G ((id,⟨XaD x,203,true⟩)::(c.ic,ckB c s.units)::(c.is,XM kyI es ts)::(c.il,XM kyI el' tl)::(c.ir,XM kyI er tr)::(c.ib,XM kyI eb tb)::(c.iu,XM kyI eu tu)::K)∧XaA [Xes x.key x.before,Xpp s x.key x.before]=e) ?_ ?_
  · have o2:=hxc
    cases hr:s.revs x.rev with
    | false =>
      rw [if_pos hr] at he
      rw [hr] at u3
      repeat(first|refine Zd1 ?_)
      refine Zz ?_
      repeat(first|refine Zae ?_|refine Zah ?_|refine Zao ?_|refine Zd2 ?_)
      repeat(first|refine Zd1 ?_)
      exact ZbR
    | true =>
    rw [if_neg (by rw [hr];decide)] at he
    rw [hr] at u3
    cases hf:Xl2 el x.key with
    | false =>
      rw [if_pos hf] at he
      rw [hf] at hF
      repeat(first|refine Zd1 ?_)
      refine Zz ?_
      repeat(first|refine Zae ?_|refine Zah ?_|refine Zao ?_|refine Zd2 ?_)
      repeat(first|refine Zd1 ?_|(refine Zaz ?_;rintro _ rfl))
      exact ZbR
    | true =>
    rw [if_neg (by rw [hf];decide)] at he
    rw [hf] at hF
    by_cases h0:0 < i
    · obtain ⟨q,hq⟩:∃ q,l[i - 1]?=some q:=⟨_,List.getElem?_eq_getElem (by omega)⟩
      have o2:Xai 4 ((l.flatMap XaD).drop (((i:Int) - 1).toNat * 4))=some (XaD q):=by
        rw [show ((i:Int) - 1).toNat=i - 1 by omega];exact Xu (enc:=XaD) (sz:=4) (fun x=>by cases x;rfl) l (i - 1) q hq
      rw [hq] at he
      by_cases c4:x.key < q.key
      · rw [if_pos ⟨h0,decide_eq_true c4⟩] at he
        repeat(first|refine Zd1 ?_)
        refine Zz ?_
        repeat(first|refine Zae ?_|refine Zah ?_|refine Zao ?_|refine Zd2 ?_)
        repeat(first|refine Zd1 ?_|(refine Zaz ?_;rintro _ rfl))
        refine Zz ?_
        repeat(first|refine ZV ?_|refine Zcp ?_|refine Zd2 ?_)
        repeat(first|refine Zd1 ?_)
        exact ZbR
      rw [if_neg (fun h=>c4 (of_decide_eq_true h.2))] at he
      cases hh:x.had with
      | false =>
        rw [if_pos hh] at he
        have hxe:XaD x=[I x.rev,I x.key,I x.before,B false]:=by rw [XaD,hh]
        rw [hxe] at hG
        have hW:=Xbi (!decide (x.before=0)) 21
        have tW:∀ c ∈ [B (!decide (x.before=0)),I 21],Xi c:=TreeL.cons (Xi.v _) (TreeL.cons (Xi.v _) TreeL.nil)
        repeat(first|refine Zd1 ?_)
        refine Zz ?_
        repeat(first|refine Zae ?_|refine Zah ?_|refine Zao ?_|refine Zd2 ?_)
        repeat(first|refine Zd1 ?_|(refine Zaz ?_;rintro _ rfl))
        refine Zz ?_
        repeat(first|refine ZV ?_|refine Zcp ?_|refine Zd2 ?_)
        repeat(first|refine Zd1 ?_|(refine Zcq ?_;rintro _ rfl)|refine Z8 ?_)
        exact Zdn
      | true =>
        rw [if_neg (by rw [hh];decide)] at he
        have hxe:XaD x=[I x.rev,I x.key,I x.before,B true]:=by rw [XaD,hh]
        rw [hxe] at hG
        repeat(first|refine Zd1 ?_)
        refine Zz ?_
        repeat(first|refine Zae ?_|refine Zah ?_|refine Zao ?_|refine Zd2 ?_)
        repeat(first|refine Zd1 ?_|(refine Zaz ?_;rintro _ rfl))
        refine Zz ?_
        repeat(first|refine ZV ?_|refine Zcp ?_|refine Zd2 ?_)
        repeat(first|refine Zd1 ?_|refine ZN ?_|refine ZU ?_)
        exact ⟨(),.cons rfl (.cons rfl (.nil _)),hxe ▸ hG,he⟩
    rw [if_neg (fun h=>h0 h.1)] at he
    cases hh:x.had with
    | false =>
      rw [if_pos hh] at he
      have hxe:XaD x=[I x.rev,I x.key,I x.before,B false]:=by rw [XaD,hh]
      rw [hxe] at hG
      have hW:=Xbi (!decide (x.before=0)) 21
      have tW:∀ c ∈ [B (!decide (x.before=0)),I 21],Xi c:=TreeL.cons (Xi.v _) (TreeL.cons (Xi.v _) TreeL.nil)
      repeat(first|refine Zd1 ?_)
      refine Zz ?_
      repeat(first|refine Zae ?_|refine Zah ?_|refine Zao ?_|refine Zd2 ?_)
      repeat(first|refine Zd1 ?_|(refine Zaz ?_;rintro _ rfl))
      refine Zz ?_
      repeat(first|refine Zd2 ?_)
      repeat(first|refine Zd1 ?_|(refine Zcq ?_;rintro _ rfl)|refine Z8 ?_)
      exact Zdn
    | true =>
      rw [if_neg (by rw [hh];decide)] at he
      have hxe:XaD x=[I x.rev,I x.key,I x.before,B true]:=by rw [XaD,hh]
      rw [hxe] at hG
      repeat(first|refine Zd1 ?_)
      refine Zz ?_
      repeat(first|refine Zae ?_|refine Zah ?_|refine Zao ?_|refine Zd2 ?_)
      repeat(first|refine Zd1 ?_|(refine Zaz ?_;rintro _ rfl))
      refine Zz ?_
      repeat(first|refine Zd2 ?_)
      repeat(first|refine Zd1 ?_|refine ZN ?_|refine ZU ?_)
      exact ⟨(),.cons rfl (.cons rfl (.nil _)),hxe ▸ hG,he⟩
  rintro ⟨⟩ G ⟨hG,he⟩
  have hC:=XeV x.key x.before
  have hR:=Xgh c s K G ⟨es,el',er,eb,eu,ts,tl,tr,tb,tu,hG.tail,a1,a2,a3,a4,a5⟩ x.key x.before
  generalize Xes x.key x.before=a at hC he
  generalize Xpp s x.key x.before=b at hR he
  have hI:=Xbn [a,b] (by simp)
  have tI:∀ c ∈ [Xc0 [a,b]],Xi c:=TreeL.cons (XW _) TreeL.nil
  obtain ⟨H1,e1⟩:∃ X,X=G++[some (Blk.mk [I a,I b] 29 true)]:=⟨_,rfl⟩
  have hG1:=hG.new (Blk.mk [I a,I b] 29 true)
  rw [← e1] at hG1
  repeat refine X4 ?_
  refine Z7 ?_
  repeat(first|refine Zdo ?_|refine Y_k rfl rfl rfl (by decide) (fun _=>Iso.K rfl rfl rfl rfl hC (TreeL.cons (Xe _) (TreeL.cons (Xe _) TreeL.nil))) ?_|refine XAZ 0 (by decide +kernel) (by decide +kernel) rfl rfl rfl rfl (by decide) (AC.K rfl rfl rfl rfl hR) ?_|refine Zcr ?_|refine Zaw ?_|refine Zd6 ?_)
  have hG:=hG1.tail
  repeat(first|refine Zf ?_)
  exact ZbR
end Go.Proofs.YtlcphjcpoinolaaGreat
