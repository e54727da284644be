/- Part of the proof: the walk over the program and its laws: Kc. -/
import Derived.Test.YtlcphjcpoinolaaGreatP0
import Derived.Test.YtlcphjcpoinolaaGreatP8
set_option linter.unusedVariables false
namespace Go.Proofs.YtlcphjcpoinolaaGreat
open Go.RowKit Go.Th
set_option maxRecDepth 20000
def Xta (x:Int):List Int→Nat→Int
  | [],_=>-1
  | y::r,i=>if x=y then i else Xta x r (i+1)
set_option maxHeartbeats 4000000 in
theorem XqJ (l:List Int) (x:Int) (hl:l.length≤1000000):Iso Tryz.prog 217 [XcS l,I x] (fun p=>p=I (Xta x l 0)):=by
  have hG:=Xd
  refine Xb Tryz.func217 rfl rfl rfl ?_
  repeat(first|refine Zes ?_)
  refine Xg (S:=Nat) (fun i=>[(0,XcS l),(1,I x),(7,I l.length),(8,I i)]) (fun i G=>i≤l.length∧Xta x l 0=Xta x (l.drop i) i∧Has G []) (fun i=>l.length - i) 0
    (.cons rfl (.cons rfl (.cons rfl (.cons rfl (.nil _))))) ⟨Nat.zero_le _,by simp,hG⟩ ?_
  clear hG
  rintro i G ⟨hi,hf,hG⟩
  by_cases hil:i < l.length
  · obtain ⟨y,hy⟩:∃ y,l[i]?=some y:=⟨_,List.getElem?_eq_getElem hil⟩
    have hd:=X2 hy
    have hc:=Xjd hy
    rw [hd,Xta] at hf
    by_cases h0:x=y
    · rw [if_pos h0] at hf
      repeat(first|refine Zes ?_|refine ZbQ ?_)
      exact ZaQ
    · rw [if_neg h0] at hf
      repeat(first|refine Zes ?_|refine ZbQ ?_)
      exact Zby
  have e0:l.drop i=[]:=List.drop_eq_nil_of_le (by omega)
  rw [e0,Xta] at hf
  repeat(first|refine Zes ?_)
  exact Zah
def Xsk (l:List Int) (x:Int):Bool:=decide (0≤Xta x l 0)
theorem XkS (l:List Int) (x:Int) (hl:l.length≤1000000):Iso Tryz.prog 202 [XcS l,I x] (fun p=>p=B (Xsk l x)):=by
  have hG:=Xd
  have hk:=XqJ l x hl
  have ht:∀ c ∈ [XcS l,I x],Xk c:=TreeL.cons (XY l) (TreeL.cons (Xk.v _) TreeL.nil)
  refine Xb Tryz.func202 rfl rfl rfl ?_
  unfold Xsk
  generalize Xta x l 0=k at hk ⊢
  by_cases h:0≤k
  · repeat(first|refine Zes ?_|(refine Zak ?_;rintro _ rfl))
    exact XI rfl rfl (.refl _) (.v _) (by rw [decide_eq_true h];rfl)
  · repeat(first|refine Zes ?_|(refine Zak ?_;rintro _ rfl))
    exact XI rfl rfl (.refl _) (.v _) (by rw [decide_eq_false h];rfl)
def XdC (e:Int):List Int:=if e=1 then [1] else if e=4 then [1] else if e=5 then [1] else if e=6 then [1] else if e=2 then [1,2] else if e=3 then [3] else if e=7 then [6] else if e=9 then [4] else if e=10 then [5] else []
def XeY (e:Int):PV:=if XdC e=[] then .v (.slice none 0 0) else XcS (XdC e)
theorem XjN (e:Int):Xk (XeY e):=by unfold XeY;split;exact Xk.v _;exact XY _
theorem Xlv (e:Int):(XdC e).length≤2:=by unfold XdC;(repeat' split) <;> simp
theorem Xov (e:Int):Wk (XeY e) (XcS (XdC e)):=by
  unfold XeY
  split
  · rename_i h;rw [h];exact .nil 1
  · exact .refl _
set_option maxHeartbeats 16000000 in
theorem XnV (e:Int):Iso Tryz.prog 203 [I e] (fun p=>p=XeY e):=by
  have hG:=Xd
  refine Xb Tryz.func203 rfl rfl rfl ?_
  unfold XeY XdC
  by_cases c1:e=1
  · rw [if_pos c1,if_neg (by simp)]
    repeat(first|refine Zes ?_|(refine ZO ?_;intro id G hG))
    exact ZbU
  rw [if_neg c1]
  by_cases c4:e=4
  · rw [if_pos c4,if_neg (by simp)]
    repeat(first|refine Zes ?_|(refine ZO ?_;intro id G hG))
    exact ZbU
  rw [if_neg c4]
  by_cases c5:e=5
  · rw [if_pos c5,if_neg (by simp)]
    repeat(first|refine Zes ?_|(refine ZO ?_;intro id G hG))
    exact ZbU
  rw [if_neg c5]
  by_cases c6:e=6
  · rw [if_pos c6,if_neg (by simp)]
    repeat(first|refine Zes ?_|(refine ZO ?_;intro id G hG))
    exact ZbU
  rw [if_neg c6]
  by_cases c2:e=2
  · rw [if_pos c2,if_neg (by simp)]
    repeat(first|refine Zes ?_|(refine ZO ?_;intro id G hG))
    exact XI rfl rfl (.own hG (k:=0) rfl rfl) (XY [1,2]) rfl
  rw [if_neg c2]
  by_cases c3:e=3
  · rw [if_pos c3,if_neg (by simp)]
    repeat(first|refine Zes ?_|(refine ZO ?_;intro id G hG))
    exact XI rfl rfl (.own hG (k:=0) rfl rfl) (XY [3]) rfl
  rw [if_neg c3]
  by_cases c7:e=7
  · rw [if_pos c7,if_neg (by simp)]
    repeat(first|refine Zes ?_|(refine ZO ?_;intro id G hG))
    exact XI rfl rfl (.own hG (k:=0) rfl rfl) (XY [6]) rfl
  rw [if_neg c7]
  by_cases c9:e=9
  · rw [if_pos c9,if_neg (by simp)]
    repeat(first|refine Zes ?_|(refine ZO ?_;intro id G hG))
    exact XI rfl rfl (.own hG (k:=0) rfl rfl) (XY [4]) rfl
  rw [if_neg c9]
  by_cases c10:e=10
  · rw [if_pos c10,if_neg (by simp)]
    repeat(first|refine Zes ?_|(refine ZO ?_;intro id G hG))
    exact XI rfl rfl (.own hG (k:=0) rfl rfl) (XY [5]) rfl
  rw [if_neg c10,if_pos rfl]
  repeat(first|refine Zes ?_)
  exact XI rfl rfl (.refl _) (Xk.v _) rfl
def Xr1 (k:Int):Int:=(Xi5 k).getD 1 0
def XuM (k:Int):Int:=(Xi5 k).getD 2 0
def XpA (k:Int):Int:=(Xi5 k).getD 3 0
def XlA (e k:Int):Bool:=srB Xdn k && Xsk (XdC e) (Xr1 k)
theorem Xpc {k:KeyR} {x:Int} (h:k.num=Xi5 x):k.group=Xr1 x∧k.low=XuM x∧k.high=XpA x:=by
  unfold Xr1 XuM XpA;rw [← h];exact ⟨rfl,rfl,rfl⟩
set_option maxHeartbeats 4000000 in
theorem Xm5 (e x:Int):Iso Tryz.prog 178 [I e,I x] (fun p=>p=B (XlA e x)):=by
  have hG:=Xd
  have hf:=XmM x
  have hg:=XnV e
  refine Xb Tryz.func178 rfl rfl rfl ?_
  unfold XlA
  cases hb:srB Xdn x with
  | false =>
    rw [hb] at hf
    repeat(first|refine Zes ?_|(refine ZbV ?_;rintro _ ⟨k,rfl,h2,hk1⟩;have hone:=XgO hk1)|(refine Za5 ?_;intro G hG)|refine Z8 ?_|(refine ZI ?_;intro id G hG))
    refine ZD ?_
    repeat(first|refine Zeu ?_)
    repeat(first|refine Zf ?_)
    exact ZB
  | true =>
    rw [hb] at hf
    repeat(first|refine Zes ?_|(refine ZbV ?_;rintro _ ⟨k,rfl,h2,hk1⟩;have hone:=XgO hk1)|(refine Za5 ?_;intro G hG)|refine Z8 ?_|(refine ZI ?_;intro id G hG))
    have hC:Iso Tryz.prog 202 [XeY e,I k.group] (fun p=>p=B (Xsk (XdC e) (Xr1 x))):=by
      rw [← (Xpc h2).1]
      exact Xtn (XkS (XdC e) k.group (by have:=Xlv e;omega)) (.cons (Xov e) (.cons (.refl _) .nil))
    refine ZD ?_
    repeat(first|refine ZU ?_|refine XA4 (fun _=>Iso.K rfl rfl rfl rfl hg (TreeL.cons (Xe _) TreeL.nil)) rfl (by decide) rfl rfl rfl rfl (by decide) ?_|refine XA4 (fun _=>Iso.K rfl rfl rfl rfl hC (TreeL.cons (XjN e) (TreeL.cons (Xe _) TreeL.nil))) rfl (by decide) rfl rfl rfl rfl (by decide) ?_|refine Zeu ?_)
    repeat(first|refine Zf ?_)
    exact ZB
def Xeh (x v:Int):Int:=if srB Xdn x=false then 4 else if v < XuM x then 5 else if XpA x < v then 5 else 0
set_option maxHeartbeats 4000000 in
theorem XeO (x v:Int):Iso Tryz.prog 179 [I x,I v] (fun p=>p=I (Xeh x v)):=by
  have hG:=Xd
  have hf:=XmM x
  refine Xb Tryz.func179 rfl rfl rfl ?_
  unfold Xeh
  cases hb:srB Xdn x with
  | false =>
    rw [hb] at hf
    repeat(first|refine Zes ?_|(refine ZbV ?_;rintro _ ⟨k,rfl,h2,hk1⟩;have hone:=XgO hk1)|(refine Za5 ?_;intro G hG)|refine Z8 ?_|(refine ZI ?_;intro id G hG))
    exact ZB
  | true =>
    rw [hb] at hf
    rw [if_neg (by simp)]
    refine Zc ?_
    refine Zb ?_
    repeat(first|refine Zd ?_)
    refine Za ?_
    refine Zc ?_
    refine Zb ?_
    repeat(first|refine Ze ?_)
    refine ZbV ?_
    rintro _ ⟨k,rfl,h2,hk1⟩
    have hone:=XgO hk1
    obtain ⟨_,n1,n2⟩:=Xpc h2
    rw [← n1,← n2]
    clear n1 n2 h2 hf
    by_cases c1:v < k.low
    · rw [if_pos c1]
      repeat(first|refine Zes ?_|(refine Za5 ?_;intro G hG)|refine Z8 ?_|(refine ZI ?_;intro id G hG))
      exact ZB
    · rw [if_neg c1]
      by_cases c2:k.high < v
      · rw [if_pos c2]
        repeat(first|refine Zes ?_|(refine Za5 ?_;intro G hG)|refine Z8 ?_|(refine ZI ?_;intro id G hG))
        exact ZB
      · rw [if_neg c2]
        repeat(first|refine Zes ?_|(refine Za5 ?_;intro G hG)|refine Z8 ?_|(refine ZI ?_;intro id G hG))
        exact ZB
def ckG (e:Int):Option Int→List Prp→Int
  | _,[]=>0
  | q,p::l=>if XlA e p.key=false then 4 else if q=some p.key then 7 else if (match q with | some k=>decide (p.key < k) | none=>false)=true then 6 else if Xeh p.key p.val=0 then ckG e (some p.key) l else Xeh p.key p.val
theorem XwP (e:Int) (q:Option Int):ckG e q []=0:=by cases q <;> rfl
theorem Xsq (e:Int) (q:Option Int) (p:Prp) (l:List Prp):ckG e q (p::l)=if XlA e p.key=false then 4 else if q=some p.key then 7 else if (match q with | some k=>decide (p.key < k) | none=>false)=true then 6 else if Xeh p.key p.val=0 then ckG e (some p.key) l else Xeh p.key p.val:=by cases q <;> rfl
def XcB (e:Int) (l:List Prp):Int:=if e < 1 then 3 else if 10 < e then 3 else ckG e none l
def XdY (l:List Prp) (i:Nat):Option Int:=if i=0 then none else (l[i - 1]?).map Prp.key
set_option maxHeartbeats 32000000 in
theorem XkT (e:Int) (l:List Prp) (hl:l.length≤1000000):Iso Tryz.prog 114 [I e,Xf l] (fun p=>p=I (XcB e l)):=by
  have hG:=Xd
  refine Xb Tryz.func114 rfl rfl rfl ?_
  unfold XcB
  by_cases e1:e < 1
  · rw [if_pos e1]
    repeat(first|refine Zes ?_)
    exact ZB
  rw [if_neg e1]
  by_cases e2:10 < e
  · rw [if_pos e2]
    repeat(first|refine Zes ?_)
    exact ZB
  rw [if_neg e2]
  repeat(first|refine Zes ?_)
  refine Xg (S:=Nat) (fun i=>[(0,I e),(1,Xf l),(14,Xf l),(15,I l.length),(16,I i)]) (fun i G=>i≤l.length∧ckG e none l=ckG e (XdY l i) (l.drop i)∧Has G []) (fun i=>l.length - i) 0
    (.cons rfl (.cons rfl (.cons rfl (.cons rfl (.cons rfl (.nil _)))))) ⟨by omega,by simp [XdY],hG⟩ ?_
  clear hG
  rintro i G ⟨h1,hf,hG⟩
  by_cases c1:i < l.length
  · obtain ⟨p,hp⟩:∃ p,l[i]?=some p:=⟨_,List.getElem?_eq_getElem c1⟩
    have o1:Xav 2 ((l.flatMap XaL).drop ((i:Int).toNat * 2))=some (XaL p):=Xp (fun x=>by cases x;rfl) l i p hp
    have hF:=Xm5 e p.key
    have hV:=XeO p.key p.val
    have tF:∀ c ∈ [I e,I p.key],Xk c:=TreeL.cons (Xe _) (TreeL.cons (Xe _) TreeL.nil)
    have tV:∀ c ∈ [I p.key,I p.val],Xk c:=TreeL.cons (Xe _) (TreeL.cons (Xe _) TreeL.nil)
    have hnx:XdY l (i+1)=some p.key:=by simp [XdY,hp]
    rw [X2 hp,Xsq] at hf
    cases hb:XlA e p.key with
    | false =>
      rw [if_pos hb] at hf
      rw [hb] at hF
      repeat(first|refine Zes ?_|refine ZdE ?_|(refine ZaD ?_;rintro _ rfl)|(refine Zz ?_;intro G hG)|(refine ZI ?_;intro id G hG))
      exact Zah
    | true =>
      rw [if_neg (by rw [hb];simp)] at hf
      rw [hb] at hF
      repeat(first|refine Zes ?_|refine ZdE ?_|(refine ZaD ?_;rintro _ rfl)|(refine Zz ?_;intro G hG)|(refine ZI ?_;intro id G hG))
      clear hF
      by_cases c2:0 < i
      · obtain ⟨q,hq⟩:∃ q,l[i - 1]?=some q:=⟨_,List.getElem?_eq_getElem (by omega)⟩
        have o2:Xav 2 ((l.flatMap XaL).drop (((i:Int) - 1).toNat * 2))=some (XaL q):=by
          rw [show ((i:Int) - 1).toNat=i - 1 by omega];exact Xp (fun x=>by cases x;rfl) l (i - 1) q hq
        have hpk:XdY l i=some q.key:=by unfold XdY;rw [if_neg (by omega),hq];rfl
        rw [hpk] at hf
        by_cases c3:p.key=q.key
        · rw [if_pos (by rw [c3])] at hf
          refine ZD ?_
          repeat(first|refine ZU ?_|refine ZbW ?_|refine Zeu ?_|refine ZaS ?_)
          repeat(first|refine Zes ?_)
          exact Zah
        · rw [if_neg (fun h=>c3 (by injection h with h;exact h.symm))] at hf
          refine ZD ?_
          repeat(first|refine ZU ?_|refine ZbW ?_|refine Zeu ?_)
          repeat(first|refine Zes ?_)
          by_cases c4:p.key < q.key
          · rw [if_pos (decide_eq_true c4)] at hf
            refine ZD ?_
            repeat(first|refine ZU ?_|refine ZbW ?_|refine Zeu ?_|refine ZaS ?_)
            repeat(first|refine Zes ?_)
            exact Zah
          · rw [if_neg (by simp only [decide_eq_true_eq];exact c4)] at hf
            refine ZD ?_
            repeat(first|refine ZU ?_|refine ZbW ?_|refine Zeu ?_)
            repeat(first|refine Zes ?_|(refine Z3 ?_;rintro _ rfl)|refine Z7 ?_)
            by_cases c5:Xeh p.key p.val=0
            · rw [if_pos c5] at hf
              repeat(first|refine Zes ?_)
              exact ZdF
            · rw [if_neg c5] at hf
              repeat(first|refine Zes ?_)
              exact ZaQ
      · have hpk:XdY l i=none:=by unfold XdY;rw [if_pos (by omega)]
        rw [hpk,if_neg (by simp),if_neg (by simp)] at hf
        refine ZD ?_
        repeat(first|refine Zeu ?_)
        repeat(first|refine Zes ?_)
        refine ZD ?_
        repeat(first|refine Zeu ?_)
        repeat(first|refine Zes ?_|(refine Z3 ?_;rintro _ rfl)|refine Z7 ?_)
        by_cases c5:Xeh p.key p.val=0
        · rw [if_pos c5] at hf
          repeat(first|refine Zes ?_)
          exact ZdF
        · rw [if_neg c5] at hf
          repeat(first|refine Zes ?_)
          exact ZaQ
  have e0:l.drop i=[]:=List.drop_eq_nil_of_le (by omega)
  rw [e0,XwP] at hf
  repeat(first|refine Zes ?_)
  exact Zah
end Go.Proofs.YtlcphjcpoinolaaGreat
