/- Part of the proof: the walk over the program and its laws: Qk. -/
import Derived.Test.YtlcphjcpoinolaaGreatP0
import Derived.Test.YtlcphjcpoinolaaGreatP31
set_option linter.unusedVariables false
namespace Go.Proofs.YtlcphjcpoinolaaGreat
open Go.RowKit Go.Th
set_option maxRecDepth 20000
def Xf5 (l:List (Int × PV)) (es:XbA Int) (t:Nat):XbA Int × Nat:=match l with
  | []=>(es,t)
  | x::l=>Xf5 l (Xf8 es t x.1 x.2) (Xf9 es t x.1)
def XsR (l:List Style):List (Int × PV):=l.map fun x=>(x.id,I x.kind)
def Xs2 (l:List Lst):List (Int × PV):=l.map fun x=>(x.id,B true)
def XsU (l:List Rev):List (Int × PV):=l.map fun x=>(x.id,B true)
def XBC (es:XbA Int) (k:Int):Int:=match (Xdk es k).getD (I 0) with
  | .v (.int _ x)=>x
  | _=>0
def XAW (es:XbA Int) (k:Int):Bool:=match (Xdk es k).getD (B false) with
  | .v (.bool b)=>b
  | _=>false
def Xs0 (d:Doc):CkS :=
  { styles:=XBC (Xf5 (XsR d.sets.styles) [] 0).1,lists:=XAW (Xf5 (Xs2 d.sets.lists) [] 0).1,revs:=XAW (Xf5 (XsU d.revs) [] 0).1,before:=fun _=>false,used:=fun _=>false,units:=0,
    e:=⟨(Xf5 (XsR d.sets.styles) [] 0).1,(Xf5 (Xs2 d.sets.lists) [] 0).1,(Xf5 (XsU d.revs) [] 0).1,[],[],(Xf5 (XsR d.sets.styles) [] 0).2,(Xf5 (Xs2 d.sets.lists) [] 0).2,(Xf5 (XsU d.revs) [] 0).2,0,0⟩ }
def Xw1 (A:PV→Prop) (d:PV) (es:XbA Int):Prop:=∀ k,A ((Xdk es k).getD d)
theorem Xgr {A:PV→Prop} {d:PV}:∀ (l:List (Int × PV)) (es:XbA Int) (t:Nat),(∀ x ∈ l,A x.2)→Xw1 A d es→Xw1 A d (Xf5 l es t).1
  | [],_,_,_,h=>h
  | x::l,es,t,hl,h=>Xgr l _ _ (fun y hy=>hl y (by simp [hy])) (fun k=>by
    rw [Xfi]
    by_cases e:k=x.1
    · rw [if_pos e];exact hl x (by simp)
    · rw [if_neg e];exact h k)
theorem Xvp {es:XbA Int} (h:Xw1 (fun p=>∃ x,p=I x) (I 0) es) (k:Int):(Xdk es k).getD (I 0)=I (XBC es k):=by
  obtain ⟨x,hx⟩:=h k
  unfold XBC
  rw [hx];rfl
theorem XpG {es:XbA Int} (h:Xw1 (fun p=>∃ x,p=B x) (B false) es) (k:Int):(Xdk es k).getD (B false)=B (XAW es k):=by
  obtain ⟨x,hx⟩:=h k
  unfold XAW
  rw [hx];rfl
theorem Xye (l:List Style):Xw1 (fun p=>∃ x,p=I x) (I 0) (Xf5 (XsR l) [] 0).1:=Xgr _ _ _ (fun x hx=>by
  obtain ⟨y,_,rfl⟩:=List.mem_map.1 hx
  exact ⟨_,rfl⟩) (fun k=>⟨0,rfl⟩)
theorem XyK (l:List Lst):Xw1 (fun p=>∃ x,p=B x) (B false) (Xf5 (Xs2 l) [] 0).1:=Xgr _ _ _ (fun x hx=>by
  obtain ⟨y,_,rfl⟩:=List.mem_map.1 hx
  exact ⟨_,rfl⟩) (fun k=>⟨false,rfl⟩)
theorem Xyt (l:List Rev):Xw1 (fun p=>∃ x,p=B x) (B false) (Xf5 (XsU l) [] 0).1:=Xgr _ _ _ (fun x hx=>by
  obtain ⟨y,_,rfl⟩:=List.mem_map.1 hx
  exact ⟨_,rfl⟩) (fun k=>⟨false,rfl⟩)
set_option maxHeartbeats 16000000 in
theorem XiR (d:Doc) (hl1:d.sets.styles.length≤1000000) (hl2:d.sets.lists.length≤1000000) (hl3:d.revs.length≤1000000) (K:List (Nat × Blk)) (H:Xi) (hK:Has H K):AC Tryz.prog 48 [.agg (X8 d)] H (fun p G=>∃ c:CkId,p=.ptr c.ic 0∧CkH c (Xs0 d) K G):=by
  have hG:=hK
  refine Xv Tryz.func48 rfl rfl rfl ?_
  repeat(first|refine Zez ?_|(refine XiC kyI hG rfl rfl (by decide) rfl ?_;intro id G hG)|refine Zaj ?_|(refine ZH ?_;intro id G hG))
  rename_i bd _ _ is _ _ il _ _ ir _ _ ib _ _ iu _ _
  obtain ⟨c,hcc⟩:∃ c:CkId,c=⟨id,is,il,ir,ib,iu⟩:=⟨_,rfl⟩
  have hG1:Has _ ((id,ckB ⟨id,is,il,ir,ib,iu⟩ 0)::([(is,XU kyI [] 0),(il,XU kyI [] 0),(ir,XU kyI [] 0),(ib,XU kyI [] 0),(iu,XU kyI [] 0)].reverse++((bd,⟨X8 d,53,true⟩)::K))):=hG
  have hG:=hG1.perm (List.Perm.cons _ ((List.reverse_perm _).append_right _))
  repeat(first|refine Zes ?_|refine ZR ?_)
  have o1:=Xye d.sets.styles
  have o2:=XyK d.sets.lists
  have o3:=Xyt d.revs
  unfold Xs0
  obtain ⟨q,hq⟩:∃ q,Xf5 (XsR d.sets.styles) [] 0=q:=⟨_,rfl⟩
  obtain ⟨q2,hq2⟩:∃ q,Xf5 (Xs2 d.sets.lists) [] 0=q:=⟨_,rfl⟩
  obtain ⟨q3,hq3⟩:∃ q,Xf5 (XsU d.revs) [] 0=q:=⟨_,rfl⟩
  rw [hq] at o1
  rw [hq2] at o2
  rw [hq3] at o3
  simp only [hq,hq2,hq3]
  refine Xg (S:=Nat × XbA Int × Nat) (fun x=>[(1,.ptr bd 0),(3,.ptr id 0),(19,XN d.sets.styles),(20,I d.sets.styles.length),(21,I x.1)])
    (fun x G=>x.1≤d.sets.styles.length∧Xf5 (XsR (d.sets.styles.drop x.1)) x.2.1 x.2.2=q∧Has G ((id,ckB ⟨id,is,il,ir,ib,iu⟩ 0)::(is,XU kyI x.2.1 x.2.2)::(il,XU kyI [] 0)::(ir,XU kyI [] 0)::(ib,XU kyI [] 0)::(iu,XU kyI [] 0)::(bd,⟨X8 d,53,true⟩)::K)) (fun x=>d.sets.styles.length - x.1) (0,[],0)
    (.cons rfl (.cons rfl (.cons rfl (.cons rfl (.cons rfl (.nil _)))))) ⟨Nat.zero_le _,hq,hG⟩ ?_
  clear hG hG1 hq
  rintro ⟨i,es,t⟩ G ⟨hi,hf,hG⟩
  dsimp only at hi hf hG ⊢
  by_cases hil:i < d.sets.styles.length
  · obtain ⟨x,hx⟩:∃ x,d.sets.styles[i]?=some x:=⟨_,List.getElem?_eq_getElem hil⟩
    have ho:=Xp XaY d.sets.styles i x hx
    rw [X2 hx,XsR,List.map_cons,Xf5] at hf
    obtain ⟨ic,hic⟩:∃ ic,ic=id:=⟨_,rfl⟩
    rw [← hic] at hG ⊢
    repeat(first|refine Zes ?_|refine Xn rfl rfl (by decide) (Xc (cells:=d.sets.styles.flatMap Xt) rfl rfl rfl (by omega) (by exact ho)) ?_|(refine Zz ?_;intro G hG)|(refine ZI ?_;intro id G hG))
    refine Xb8 (L:=(id,⟨Xt x,100,true⟩)::(ic,ckB ⟨ic,is,il,ir,ib,iu⟩ 0)::(is,XU kyI es t)::(il,XU kyI [] 0)::(ir,XU kyI [] 0)::(ib,XU kyI [] 0)::(iu,XU kyI [] 0)::(bd,⟨X8 d,53,true⟩)::K) hG ?_
    clear hG
    intro G hG
    obtain ⟨H1,e1⟩:∃ X,X=G.set is (some (XU kyI (Xf8 es t x.id (I x.kind)) (Xf9 es t x.id))):=⟨_,rfl⟩
    have hG1:=hG.set (k:=2) rfl (XU kyI (Xf8 es t x.id (I x.kind)) (Xf9 es t x.id))
    rw [← e1] at hG1
    refine XhT [8] [H1] H1 mixed (by decide +kernel) (N:=1) (by decide +kernel) rfl ?_
    repeat(first|refine ZbC ?_|refine ZcV ?_|refine F_s 0 rfl (by decide +kernel) rfl rfl rfl rfl (XcC (XcN .i64) rfl rfl rfl rfl (hG.get 2 _ _ rfl)) e1 ?_|refine Zey ?_)
    have hG:=hG1
    repeat(first|refine Zes ?_)
    exact ⟨(i+1,Xf8 es t x.id (I x.kind),Xf9 es t x.id),by dsimp only;omega,.cons rfl (.cons rfl (.cons rfl (.cons rfl (.cons rfl (.nil _))))),by dsimp only;omega,hf,hG.tail⟩
  rw [List.drop_eq_nil_of_le (by omega),XsR,List.map_nil,Xf5] at hf
  repeat(first|refine Zes ?_|refine ZR ?_)
  refine Xg (S:=Nat × XbA Int × Nat) (fun x=>[(1,.ptr bd 0),(3,.ptr id 0),(36,Xbq d.sets.lists),(37,I d.sets.lists.length),(38,I x.1)])
    (fun x G=>x.1≤d.sets.lists.length∧Xf5 (Xs2 (d.sets.lists.drop x.1)) x.2.1 x.2.2=q2∧Has G ((id,ckB ⟨id,is,il,ir,ib,iu⟩ 0)::(is,XU kyI es t)::(il,XU kyI x.2.1 x.2.2)::(ir,XU kyI [] 0)::(ib,XU kyI [] 0)::(iu,XU kyI [] 0)::(bd,⟨X8 d,53,true⟩)::K)) (fun x=>d.sets.lists.length - x.1) (0,[],0)
    (.cons rfl (.cons rfl (.cons rfl (.cons rfl (.cons rfl (.nil _)))))) ⟨Nat.zero_le _,hq2,hG⟩ ?_
  clear hG hq2
  rintro ⟨j,el,tl⟩ G ⟨hj,hf2,hG⟩
  dsimp only at hj hf2 hG ⊢
  by_cases hjl:j < d.sets.lists.length
  · obtain ⟨x,hx⟩:∃ x,d.sets.lists[j]?=some x:=⟨_,List.getElem?_eq_getElem hjl⟩
    have ho:=Xp XfC d.sets.lists j x hx
    rw [X2 hx,Xs2,List.map_cons,Xf5] at hf2
    obtain ⟨ic,hic⟩:∃ ic,ic=id:=⟨_,rfl⟩
    rw [← hic] at hG ⊢
    repeat(first|refine Zes ?_|refine Xn rfl rfl (by decide) (Xc (cells:=d.sets.lists.flatMap Xae) rfl rfl rfl (by omega) (by exact ho)) ?_|(refine Zz ?_;intro G hG)|(refine ZI ?_;intro id G hG))
    refine Xb8 (L:=(id,⟨Xae x,103,true⟩)::(ic,ckB ⟨ic,is,il,ir,ib,iu⟩ 0)::(is,XU kyI es t)::(il,XU kyI el tl)::(ir,XU kyI [] 0)::(ib,XU kyI [] 0)::(iu,XU kyI [] 0)::(bd,⟨X8 d,53,true⟩)::K) hG ?_
    clear hG
    intro G hG
    obtain ⟨H1,e1⟩:∃ X,X=G.set il (some (XU kyI (Xf8 el tl x.id (B true)) (Xf9 el tl x.id))):=⟨_,rfl⟩
    have hG1:=hG.set (k:=3) rfl (XU kyI (Xf8 el tl x.id (B true)) (Xf9 el tl x.id))
    rw [← e1] at hG1
    refine Zd1 ?_
    repeat(first|refine ZbC ?_|refine ZcV ?_|refine F_s 0 rfl (by decide +kernel) rfl rfl rfl rfl (XcC (XcN .i64) rfl rfl rfl rfl (hG.get 3 _ _ rfl)) e1 ?_|refine Zey ?_)
    have hG:=hG1
    repeat(first|refine Zes ?_)
    exact ⟨(j+1,Xf8 el tl x.id (B true),Xf9 el tl x.id),by dsimp only;omega,.cons rfl (.cons rfl (.cons rfl (.cons rfl (.cons rfl (.nil _))))),by dsimp only;omega,hf2,hG.tail⟩
  rw [List.drop_eq_nil_of_le (by omega),Xs2,List.map_nil,Xf5] at hf2
  repeat(first|refine Zes ?_|refine ZR ?_)
  refine Xg (S:=Nat × XbA Int × Nat) (fun x=>[(3,.ptr id 0),(50,Xdr d.revs),(51,I d.revs.length),(52,I x.1)])
    (fun x G=>x.1≤d.revs.length∧Xf5 (XsU (d.revs.drop x.1)) x.2.1 x.2.2=q3∧Has G ((id,ckB ⟨id,is,il,ir,ib,iu⟩ 0)::(is,XU kyI es t)::(il,XU kyI el tl)::(ir,XU kyI x.2.1 x.2.2)::(ib,XU kyI [] 0)::(iu,XU kyI [] 0)::(bd,⟨X8 d,53,true⟩)::K)) (fun x=>d.revs.length - x.1) (0,[],0)
    (.cons rfl (.cons rfl (.cons rfl (.cons rfl (.nil _))))) ⟨Nat.zero_le _,hq3,hG⟩ ?_
  clear hG hq3
  rintro ⟨k,er,tr⟩ G ⟨hk,hf3,hG⟩
  dsimp only at hk hf3 hG ⊢
  by_cases hkl:k < d.revs.length
  · obtain ⟨x,hx⟩:∃ x,d.revs[k]?=some x:=⟨_,List.getElem?_eq_getElem hkl⟩
    have ho:=Xp (enc:=Xco) (sz:=3) (fun x=>by cases x;rfl) d.revs k x hx
    rw [X2 hx,XsU,List.map_cons,Xf5] at hf3
    obtain ⟨ic,hic⟩:∃ ic,ic=id:=⟨_,rfl⟩
    rw [← hic] at hG ⊢
    repeat(first|refine Zes ?_|refine Xn rfl rfl (by decide) (Xc (cells:=d.revs.flatMap Xco) rfl rfl rfl (by omega) (by exact ho)) ?_|(refine Zz ?_;intro G hG)|(refine ZI ?_;intro id G hG))
    refine Xb8 (L:=(id,⟨Xco x,133,true⟩)::(ic,ckB ⟨ic,is,il,ir,ib,iu⟩ 0)::(is,XU kyI es t)::(il,XU kyI el tl)::(ir,XU kyI er tr)::(ib,XU kyI [] 0)::(iu,XU kyI [] 0)::(bd,⟨X8 d,53,true⟩)::K) hG ?_
    clear hG
    intro G hG
    obtain ⟨H1,e1⟩:∃ X,X=G.set ir (some (XU kyI (Xf8 er tr x.id (B true)) (Xf9 er tr x.id))):=⟨_,rfl⟩
    have hG1:=hG.set (k:=4) rfl (XU kyI (Xf8 er tr x.id (B true)) (Xf9 er tr x.id))
    rw [← e1] at hG1
    refine Zd1 ?_
    repeat(first|refine ZbC ?_|refine ZcV ?_|refine F_s 0 rfl (by decide +kernel) rfl rfl rfl rfl (XcC (XcN .i64) rfl rfl rfl rfl (hG.get 4 _ _ rfl)) e1 ?_|refine Zey ?_)
    have hG:=hG1
    repeat(first|refine Zes ?_)
    exact ⟨(k+1,Xf8 er tr x.id (B true),Xf9 er tr x.id),by dsimp only;omega,.cons rfl (.cons rfl (.cons rfl (.cons rfl (.nil _)))),by dsimp only;omega,hf3,hG.tail⟩
  rw [List.drop_eq_nil_of_le (by omega),XsU,List.map_nil,Xf5] at hf3
  repeat(first|refine Zes ?_)
  refine XC rfl rfl ⟨⟨id,is,il,ir,ib,iu⟩,rfl,CkH.cut [(bd,⟨X8 d,53,true⟩)] ⟨es,el,er,[],[],t,tl,tr,0,0,hG,fun k=>?_,fun k=>?_,fun k=>?_,fun k=>rfl,fun k=>rfl,?_⟩⟩
  · subst hf;exact Xvp o1 k
  · subst hf2;exact XpG o2 k
  · subst hf3;exact XpG o3 k
  · subst hf;subst hf2;subst hf3;rfl
end Go.Proofs.YtlcphjcpoinolaaGreat
