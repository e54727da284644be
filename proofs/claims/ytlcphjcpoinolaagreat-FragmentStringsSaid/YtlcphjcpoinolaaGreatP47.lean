/- Part of the proof: the walk over the program and its laws: Sd. -/
import Derived.Test.YtlcphjcpoinolaaGreatP0
import Derived.Test.YtlcphjcpoinolaaGreatP24
import Derived.Test.YtlcphjcpoinolaaGreatP46
set_option linter.unusedVariables false
namespace Go.Proofs.YtlcphjcpoinolaaGreat
open Go.RowKit Go.Th
set_option maxRecDepth 20000
def XqS (l:List Style) (i:Nat) (es:XbC Int) (t:Nat):XbC Int × Nat:=match l with
  | []=>(es,t)
  | x::l=>XqS l (i+1) (Xgt es t x.id (I i)) (Xgu es t x.id)
def Xoa (l:List Style) (es:XbC Int) (id:Int):Option Style:=match Xdr es id with
  | some (.v (.int _ j))=>l[j.toNat]?
  | _=>none
def Xc8 (l:List Style) (es:XbC Int):Nat→Int→List Style
  | 0,_=>[]
  | n+1,id=>if id=0 then [] else match Xoa l es id with
    | none=>[]
    | some x=>x::Xc8 l es n x.base
def Idx (n:Nat) (es:XbC Int):Prop:=∀ id,Xdr es id=none∨∃ j:Nat,j < n∧Xdr es id=some (I j)
theorem XnC {n:Nat}:∀ (l:List Style) (i:Nat) (es:XbC Int) (t:Nat),i+l.length≤n→Idx n es→Idx n (XqS l i es t).1
  | [],_,_,_,_,h=>h
  | x::l,i,es,t,hl,h=>by
    rw [XqS]
    refine XnC l (i+1) _ _ (by simp only [List.length_cons] at hl;omega) fun id=>?_
    rw [Xft]
    by_cases e:id=x.id
    · rw [if_pos e];exact .inr ⟨i,by simp only [List.length_cons] at hl;omega,rfl⟩
    · rw [if_neg e];exact h id
theorem Xf9 (l:List Style) (es:XbC Int):∀ (n:Nat) (id:Int),(Xc8 l es n id).length≤n
  | 0,_=>Nat.le_refl _
  | n+1,id=>by
    rw [Xc8]
    split
    · simp
    · split
      · simp
      · have:=Xf9 l es n (by assumption:Style).base
        simp only [List.length_cons]
        omega
theorem Xmt {l:List Style} {es:XbC Int} {n:Nat} {id:Int} {x:Style} {r:List Style} (h:Xc8 l es n id=x::r):∃ m,n=m+1∧id≠0∧Xoa l es id=some x∧Xc8 l es m x.base=r:=by
  cases n with
  | zero=>rw [Xc8] at h;cases h
  | succ m =>
    rw [Xc8] at h
    split at h
    · cases h
    · rename_i h0
      split at h
      · cases h
      · rename_i y hy
        simp only [List.cons.injEq] at h
        obtain ⟨rfl,h⟩:=h
        exact ⟨m,rfl,h0,hy,h⟩
theorem XoE {l:List Style} {es:XbC Int} {n:Nat} {id:Int} (h:Xc8 l es n id=[]):n=0∨id=0∨Xoa l es id=none:=by
  cases n with
  | zero=>exact .inl rfl
  | succ m =>
    rw [Xc8] at h
    split at h
    · rename_i h0;exact .inr (.inl h0)
    · split at h
      · rename_i h0;exact .inr (.inr h0)
      · cases h
theorem XsD (l:List Style) (id:Int) (K:List (Nat × Blk)) (H:Xh) (hK:Has H K):AC Tryz.prog 167 [XL l,I id] H (fun p G=>∃ b,p=.fn (.func 198) [.ept [XL l] 0,.ptr b 0]∧Has G ((b,⟨[I id],3,true⟩)::K)):=by
  have hG:=hK
  refine Xw Tryz.func167 rfl rfl rfl ?_
  refine Zc ?_
  refine Zb ?_
  repeat(first|refine Zd ?_|(refine ZI ?_;intro id G hG))
  refine Za ?_
  rename_i b _ _
  refine XD 2 (hG.perm (List.Perm.swap _ _ _)) rfl ?_
  clear hG
  intro G hG
  repeat(first|refine Zd1 ?_|refine ZaH ?_)
  exact XG rfl rfl ⟨_,rfl,hG⟩
set_option maxHeartbeats 16000000 in
theorem XqJ (l:List Style) (hl:l.length≤1000000) (n:Nat) (id0 b:Int→Nat) (bid:Nat) (id:Int) :
    XBH Tryz.prog 198 [.ept [XL l] 0,.ptr bid 0] [(bid,⟨[I id],3,true⟩)] [] ((Xc8 l (XqS l 0 [] 0).1 n id).map fun x=>[.agg (Xt x)]) ((Xc8 l (XqS l 0 [] 0).1 n id).length=n):=by
  intro lid S J X L hcut hy s G K h0 hG0
  obtain ⟨q,hq⟩:∃ q,XqS l 0 [] 0=q:=⟨_,rfl⟩
  have hix:Idx l.length q.1:=by
    rw [← hq]
    exact XnC l 0 [] 0 (by omega) (fun id=>.inl (Xjf id))
  rw [hq] at hcut hy ⊢
  obtain ⟨xs,hxs⟩:∃ xs,Xc8 l q.1 n id=xs:=⟨_,rfl⟩
  rw [hxs] at hcut hy ⊢
  rw [List.length_map] at hcut ⊢
  have hG:Has G ((bid,⟨[I id],3,true⟩)::(L s++K)):=hG0.swapL
  clear hG0
  refine Xw Tryz.func198 rfl rfl rfl ?_
  repeat(first|refine Zd1 ?_|(refine XiK kyI hG rfl rfl (by decide) rfl ?_;intro im G hG))
  refine Xg (S:=Nat × XbC Int × Nat) (fun x=>[(0,.yld lid),(1,.ept [XL l] 0),(2,.ptr bid 0),(4,.mp im),(10,XL l),(11,I l.length),(12,I x.1)])
    (fun x G=>x.1≤l.length∧XqS (l.drop x.1) x.1 x.2.1 x.2.2=q∧Has G ((im,XM kyI x.2.1 x.2.2)::(bid,⟨[I id],3,true⟩)::(L s++K))) (fun x=>l.length - x.1) (0,[],0)
    (.cons rfl (.cons rfl (.cons rfl (.cons rfl (.cons rfl (.cons rfl (.cons rfl (.nil _)))))))) ⟨Nat.zero_le _,hq,hG⟩ ?_
  clear hG hq
  rintro ⟨i,es,t⟩ G ⟨hi,hf,hG⟩
  dsimp only at hi hf hG ⊢
  by_cases hil:i < l.length
  · obtain ⟨x,hx⟩:∃ x,l[i]?=some x:=⟨_,List.getElem?_eq_getElem hil⟩
    have ho:=Xu Xa5 l i x hx
    rw [Xak hx,XqS] at hf
    repeat(first|refine Zd1 ?_|refine ZJ ?_|refine ZbA ?_|(refine XiJ (XcQ .i64) 1 hG rfl rfl rfl rfl rfl rfl rfl ?_;intro G hG)|(refine ZA ?_;intro G hG)|(refine ZD ?_;intro id G hG))
    exact ⟨(i+1,Xgt es t x.id (I i),Xgu es t x.id),by dsimp only;omega,.cons rfl (.cons rfl (.cons rfl (.cons rfl (.cons rfl (.cons rfl (.cons rfl (.nil _))))))),by dsimp only;omega,hf,hG.tail⟩
  rw [List.drop_eq_nil_of_le (by omega),XqS] at hf
  subst hf
  dsimp only at *
  repeat(first|refine Zd1 ?_)
  have hG:Has _ ([(im,XM kyI es t),(bid,⟨[I id],3,true⟩)]++(L s++K)):=hG
  refine Xg (S:=Nat × Int × S) (fun x=>[(0,.yld lid),(1,.ept [XL l] 0),(2,.ptr bid 0),(4,.mp im)])
    (fun x G=>x.1≤xs.length∧Xc8 l es (n - x.1) x.2.1=xs.drop x.1∧J x.1 x.2.2∧Has G ((im,XM kyI es t)::(bid,⟨[I x.2.1],3,true⟩)::(L x.2.2++K))) (fun x=>xs.length - x.1) (0,id,s)
    (.cons rfl (.cons rfl (.cons rfl (.cons rfl (.nil _))))) ⟨Nat.zero_le _,by simpa using hxs,h0,hG⟩ ?_
  clear hG h0 hi hil
  rintro ⟨i,k,s⟩ G ⟨hi,hf,hJ,hG⟩
  dsimp only at hi hf hJ hG ⊢
  by_cases hil:i < xs.length
  · obtain ⟨x,hx⟩:∃ x,xs[i]?=some x:=⟨_,List.getElem?_eq_getElem hil⟩
    rw [Xak hx] at hf
    obtain ⟨m,hm,hk0,hnx,hrest⟩:=Xmt hf
    obtain ⟨j,hjl,hj⟩:∃ j:Nat,j < l.length∧Xdr es k=some (I j):=by
      rcases hix k with h | h
      · unfold Xoa at hnx;rw [h] at hnx;cases hnx
      · exact h
    have hlx:l[j]?=some x:=by
      unfold Xoa at hnx;rw [hj] at hnx;simpa [I] using hnx
    have ho:=Xu Xa5 l j x hlx
    have hyc:=hy i s G ((im,XM kyI es t)::(bid,⟨[I k],3,true⟩)::K) [.agg (Xt x)] (by rw [List.getElem?_map,hx];rfl) hJ ((Has.swapL (A:=[(im,XM kyI es t),(bid,⟨[I k],3,true⟩)]) hG))
    have hj1:(Xdr es k).getD (zPV (.int .i64 0))=I j:=by rw [hj];rfl
    repeat(first|refine Zd1 ?_|refine Xj rfl rfl (by decide) (OpV.same (Xgq (XcQ .i64) rfl rfl rfl (hG.get 0 _ _ rfl) rfl (by exact hj1)) (by rw [hj];rfl:_=PV.tup [I j,B true])) ?_|refine Xj rfl rfl (by decide) (Xm rfl rfl (hG.get 1 _ _ rfl) rfl) ?_|refine ZbA ?_|(refine Xxf rfl rfl (by decide) rfl rfl rfl rfl hyc ?_;rintro p G ⟨s',hG,hp⟩)|refine ZS ?_)
    rcases hp with ⟨rfl,hJ'⟩ | ⟨rfl,hX⟩
    · have hG:Has G ((im,XM kyI es t)::(bid,⟨[I k],3,true⟩)::(L s'++K)):=Has.swapL (B:=[(im,XM kyI es t),(bid,⟨[I k],3,true⟩)]) hG
      clear hyc
      repeat(first|refine Zd1 ?_|refine ZJ ?_|refine ZbA ?_|(refine Za5 ?_;intro G hG)|refine ZN ?_|refine ZU ?_)
      exact ⟨(i+1,x.base,s'),by dsimp only;omega,.cons rfl (.cons rfl (.cons rfl (.cons rfl (.nil _)))),by dsimp only;omega,by dsimp only;rw [show n - (i+1)=m by omega];exact hrest,hJ',hG⟩
    · clear hyc
      repeat(first|refine Zd1 ?_)
      exact XcO rfl (.inr rfl) ⟨s',Has.midcut (B:=[(im,XM kyI es t),(bid,⟨[I k],3,true⟩)]) hG,.inr hX⟩
  have hi2:i=xs.length:=by omega
  subst hi2
  rw [List.drop_length] at hf
  have hlen:xs.length≤n:=by rw [← hxs];exact Xf9 l es n id
  have hfin:Has G (L s++([]++K)):=hG.tail.tail
  rcases XoE hf with h | h | h
  · exact absurd hJ (hcut (by omega) s)
  · subst h
    repeat(first|refine Zd1 ?_|refine Z3 ?_|refine ZaC ?_|refine ZaD ?_)
    exact XcO rfl (.inl rfl) ⟨s,hfin,.inl hJ⟩
  · have hn:Xdr es k=none:=by
      rcases hix k with h2 | ⟨j,hjl,h2⟩
      · exact h2
      · unfold Xoa at h;rw [h2] at h
        simp only [I,Int.toNat_natCast] at h
        rw [List.getElem?_eq_getElem hjl] at h;cases h
    have hj1:(Xdr es k).getD (zPV (.int .i64 0))=I 0:=by rw [hn];rfl
    by_cases k0:k=0
    · subst k0
      repeat(first|refine Zd1 ?_|refine Z3 ?_|refine ZaC ?_|refine ZaD ?_)
      exact XcO rfl (.inl rfl) ⟨s,hfin,.inl hJ⟩
    · repeat(first|refine Zd1 ?_|refine Xj rfl rfl (by decide) (OpV.same (Xgq (XcQ .i64) rfl rfl rfl (hG.get 0 _ _ rfl) rfl (by exact hj1)) (by rw [hn];rfl:_=PV.tup [I 0,B false])) ?_|refine ZS ?_|refine Z3 ?_)
      exact XcO rfl (.inr rfl) ⟨s,hfin,.inl hJ⟩
def Xq6 (l:List Style) (x:Style):Bool :=
  if x.base≠0∧isF l x.kind x.base=false then true else if x.next≠0 then (if x.kind=2 then true else !isF l 1 x.next) else false
def Xgm (l:List Style) (x:Style):List Style:=Xc8 l (XqS l 0 [] 0).1 (l.length+1) x.id
def XwH (l:List Style) (x:Style):Bool:=decide ((Xgm l x).length=l.length+1)
def XBb (l:List Style):Int :=
  if 128 < l.length then 9 else if XmA (XrQ l) l.length=0 then (if l.any (Xq6 l)=true then 25 else if l.any (XwH l)=true then 16 else 0) else XmA (XrQ l) l.length
theorem XqN (l:List Style) (x:Style) :
    (x.base≠0∧isF l x.kind x.base=false∧Xq6 l x=true) ∨
    ((x.base=0∨x.base≠0∧isF l x.kind x.base=true)∧(x.next=0∧Xq6 l x=false∨x.next≠0∧x.kind=2∧Xq6 l x=true∨x.next≠0∧x.kind≠2∧isF l 1 x.next=true∧Xq6 l x=false∨x.next≠0∧x.kind≠2∧isF l 1 x.next=false∧Xq6 l x=true)):=by
  unfold Xq6
  by_cases c1:x.base=0 <;> by_cases c2:x.next=0 <;> by_cases c3:x.kind=2 <;> cases isF l x.kind x.base <;> cases isF l 1 x.next <;> simp [c1,c2,c3]
set_option maxHeartbeats 64000000 in
theorem Xj7 (l:List Style) (hl:l.length≤1000000) (hp:∀ x ∈ l,x.props.length≤1000000):Iso Tryz.prog 104 [XL l] (fun p=>p=I (XBb l)):=by
  have hG:=Xc
  obtain ⟨q,hq⟩:∃ q,XBb l=q:=⟨_,rfl⟩
  rw [hq]
  unfold XBb at hq
  refine Xb Tryz.func104 rfl rfl rfl ?_
  refine Zc ?_
  refine Zb ?_
  repeat(first|(refine ZD ?_;intro id G hG)|(refine ZI ?_;intro id G hG))
  refine Za ?_
  rename_i b _ _
  refine XD 1 (hG.perm (List.Perm.swap _ _ _)) rfl ?_
  clear hG
  intro G hG
  by_cases c1:128 < l.length
  · rw [if_pos c1] at hq
    repeat(first|refine Zd1 ?_|(refine ZA ?_;intro G hG))
    exact Zb2
  rw [if_neg c1] at hq
  repeat(first|refine Zd1 ?_)
  refine Xg (S:=Nat) (fun i=>[(1,.ept [XL l] 0),(2,.ptr id 0),(14,I l.length),(15,I i)]) (fun i G=>i≤l.length∧XmA (XrQ l) l.length=XqR (XrQ l) (l.length - i) i∧Has G [(id,⟨[I 0],29,true⟩)]) (fun i=>l.length - i) 0
    (.cons rfl (.cons rfl (.cons rfl (.cons rfl (.nil _))))) ⟨Nat.zero_le _,rfl,hG⟩ ?_
  clear hG
  rintro i G ⟨hi,hf,hG⟩
  by_cases hil:i < l.length
  · have hk:=XuG l i hil hl hp
    have tk:∀ c ∈ [XL l,I i],Xi c:=TreeL.cons (XI _) (TreeL.cons (Xe _) TreeL.nil)
    rw [show l.length - i=(l.length - (i+1))+1 from by omega,XqR] at hf
    by_cases h0:XrQ l i=0
    · rw [if_pos h0] at hf
      rw [h0] at hk
      repeat(first|refine Zd1 ?_|(refine Zam ?_;rintro _ rfl))
      exact Zcj
    · rw [if_neg h0] at hf
      rw [hf,if_neg h0] at hq
      generalize XrQ l i=x at hk h0 hq
      repeat(first|refine Zd1 ?_|(refine Zam ?_;rintro _ rfl)|(refine ZA ?_;intro G hG))
      exact Zb2
  rw [show l.length - i=0 from by omega,XqR] at hf
  rw [hf,if_pos rfl] at hq
  repeat(first|refine Zd1 ?_)
  refine Xg (S:=Nat) (fun i=>[(1,.ept [XL l] 0),(2,.ptr id 0),(25,XL l),(26,I l.length),(27,I i)]) (fun i G=>i≤l.length∧l.any (Xq6 l)=(l.drop i).any (Xq6 l)∧Has G [(id,⟨[I 0],29,true⟩)]) (fun i=>l.length - i) 0
    (.cons rfl (.cons rfl (.cons rfl (.cons rfl (.cons rfl (.nil _)))))) ⟨Nat.zero_le _,rfl,hG⟩ ?_
  clear hG hf hi hil
  rintro i G ⟨hi,hf,hG⟩
  by_cases hil:i < l.length
  · obtain ⟨x,hx⟩:∃ x,l[i]?=some x:=⟨_,List.getElem?_eq_getElem hil⟩
    have ho:=Xu Xa5 l i x hx
    obtain ⟨e,he⟩:∃ e,e=id:=⟨_,rfl⟩
    rw [← he] at hG ⊢
    clear he
    repeat(first|refine Zd7 ?_)
    refine Zh ?_
    refine Zc ?_
    refine Zb ?_
    repeat(first|refine ZbA ?_|refine Zu ?_|(refine ZA ?_;intro G hG)|(refine ZD ?_;intro id G hG))
    refine Za ?_
    refine Zc ?_
    refine XD (C:=⟨Xt x,100,true⟩) 6 hG rfl ?_
    clear hG
    intro G hG
    have hk1:=Xtl l x.kind x.base hl
    have tk1:∀ c ∈ [XL l,I x.kind,I x.base],Xi c:=TreeL.cons (XI _) (TreeL.cons (Xe _) (TreeL.cons (Xe _) TreeL.nil))
    have hk2:=Xtl l 1 x.next hl
    have tk2:∀ c ∈ [XL l,I 1,I x.next],Xi c:=TreeL.cons (XI _) (TreeL.cons (Xe _) (TreeL.cons (Xe _) TreeL.nil))
    rw [Xak hx,List.any_cons] at hf
    obtain ⟨bb,hbb⟩:∃ bb,Xq6 l x=bb:=⟨_,rfl⟩
    rw [hbb] at hf
    refine Xcw (S:=Unit) (fun _=>[(1,.ept [XL l] 0),(2,.ptr e 0),(25,XL l),(26,I l.length),(27,I i),(59,B bb)]) (fun _ G=>Has G [(e,⟨[I 0],29,true⟩)]) ?_ ?_
    · have hs:=XqN l x
      rw [hbb] at hs
      clear hbb
      rcases hs with ⟨d1,d2,d3⟩ | ⟨⟨d1⟩ | ⟨d1,d2⟩,⟨d3,d4⟩ | ⟨d3,d5,d4⟩ | ⟨d3,d5,d6,d4⟩ | ⟨d3,d5,d6,d4⟩⟩ <;> subst bb <;> (try rw [d2] at hk1) <;> (try rw [d6] at hk2)
      all_goals (
        repeat(first|refine Zd1 ?_|(refine Xr rfl rfl rfl rfl rfl rfl (by decide) hk1 tk1 ?_;rintro _ rfl)|(refine Xr rfl rfl rfl rfl rfl rfl (by decide) hk2 tk2 ?_;rintro _ rfl)|refine ZX ?_)
      )
      all_goals (exact ⟨(),.cons rfl (.cons rfl (.cons rfl (.cons rfl (.cons rfl (.cons rfl (.nil _)))))),hG⟩)
    clear hk1 hk2 tk1 tk2 hG
    rintro _ G hG
    cases bb with
    | true =>
      rw [Bool.true_or] at hf
      rw [hf,if_pos rfl] at hq
      repeat(first|refine Zd1 ?_|(refine ZA ?_;intro G hG))
      exact Zb2
    | false =>
      rw [Bool.false_or] at hf
      repeat(first|refine Zd1 ?_)
      exact ZdZ
  rw [List.drop_eq_nil_of_le (by omega),List.any_nil] at hf
  rw [hf,if_neg (by decide)] at hq
  repeat(first|refine Zd1 ?_)
  refine Xg (S:=Nat) (fun i=>[(1,.ept [XL l] 0),(2,.ptr id 0),(61,XL l),(62,I l.length),(63,I i)]) (fun i G=>i≤l.length∧l.any (XwH l)=(l.drop i).any (XwH l)∧Has G [(id,⟨[I 0],29,true⟩)]) (fun i=>l.length - i) 0
    (.cons rfl (.cons rfl (.cons rfl (.cons rfl (.cons rfl (.nil _)))))) ⟨Nat.zero_le _,rfl,hG⟩ ?_
  clear hG hf hi hil
  rintro i G ⟨hi,hf,hG⟩
  by_cases hil:i < l.length
  · obtain ⟨x,hx⟩:∃ x,l[i]?=some x:=⟨_,List.getElem?_eq_getElem hil⟩
    have ho:=Xu Xa5 l i x hx
    rw [Xak hx,List.any_cons] at hf
    obtain ⟨e,he⟩:∃ e,e=id:=⟨_,rfl⟩
    rw [← he] at hG ⊢
    clear he
    repeat(first|refine Zd7 ?_)
    refine Zh ?_
    refine Zc ?_
    refine Zb ?_
    repeat(first|refine ZbA ?_|refine Zu ?_|(refine ZA ?_;intro G hG)|(refine ZD ?_;intro id G hG))
    refine Za ?_
    refine XD (C:=⟨Xt x,100,true⟩) 8 hG rfl ?_
    clear hG
    intro G hG
    repeat(first|refine Zd7 ?_|(refine ZA ?_;intro G hG)|(refine ZD ?_;intro id G hG))
    obtain ⟨b9,hb9⟩:∃ b9,b9=id:=⟨_,rfl⟩
    rw [← hb9] at hG ⊢
    clear hb9
    have hG:Has _ [(b9,⟨[I 0],3,true⟩),(e,⟨[I 0],29,true⟩)]:=hG
    refine X0 rfl rfl rfl rfl rfl rfl (by decide) (XsD l x.id _ _ hG) ?_
    rintro _ G ⟨bc,rfl,hG⟩
    repeat(first|refine Za ?_)
    refine Zh ?_
    have hn1:=Xf9 l (XqS l 0 [] 0).1 (l.length+1) x.id
    refine XjW (S:=Nat × Int) (xs:=(Xgm l x).map fun x=>[.agg (Xt x)]) (C:=[(bc,⟨[I x.id],3,true⟩)]) (C':=[]) (K:=[]) (cut:=(Xgm l x).length=l.length+1)
      (L:=fun s=>[(b9,⟨[I s.1],3,true⟩),(e,⟨[I s.2],29,true⟩)]) (I:=fun i s=>s=(i,0)∧i≤l.length) (X:=fun k s=>k=1∧s=(l.length+1,16)∧(Xgm l x).length=l.length+1)
      rfl (XqJ l hl (l.length+1) (fun _=>0) (fun _=>0) bc x.id) ?_ ?_ (by decide) (0,0) ⟨rfl,Nat.zero_le _⟩ (hG.perm (List.Perm.trans (List.Perm.swap _ _ _) (List.Perm.cons _ (List.Perm.swap _ _ _)))) ?_ ?_ ?_
    · rintro h s ⟨h1,h2⟩
      rw [List.length_map] at h2
      omega
    · intro args ha
      obtain ⟨y,_,rfl⟩:=List.mem_map.1 ha
      rfl
    · rintro j args s G K' hj ⟨rfl,hjl⟩ hG
      obtain ⟨y,hy,rfl⟩:∃ y,(Xgm l x)[j]?=some y∧[.agg (Xt y)]=args:=by
        rw [List.getElem?_map] at hj
        exact Option.map_eq_some_iff.1 hj
      have hjx:j < (Xgm l x).length:=(List.getElem?_eq_some_iff.1 hy).1
      clear hy
      have hG:Has G ((b9,⟨[I j],3,true⟩)::(e,⟨[I 0],29,true⟩)::K'):=hG
      have hn2:(Xgm l x).length≤l.length+1:=hn1
      clear hn1 hj ho hx hf hq hp
      by_cases hjj:j+1≤l.length
      · repeat(first|refine Zd1 ?_|(refine ZA ?_;intro G hG)|refine ZU ?_)
        exact ⟨(j+1,0),⟨rfl,hjj⟩,hG⟩
      · repeat(first|refine Zd1 ?_|(refine ZA ?_;intro G hG)|(refine Za5 ?_;intro G hG))
        exact ⟨(j+1,16),⟨rfl,by rw [show j=l.length by omega],by omega⟩,hG⟩
    · rintro s G ⟨rfl,hjl⟩ hG
      rw [List.length_map] at hjl
      have hc:XwH l x=false:=by
        unfold XwH
        exact decide_eq_false (by omega)
      rw [hc,Bool.false_or] at hf
      have hG:Has G [(b9,⟨[I (((Xgm l x).map fun x=>[PV.agg (Xt x)]).length:Nat)],3,true⟩),(e,⟨[I 0],29,true⟩)]:=hG
      clear hn1 ho hx hp hc
      repeat(first|refine Zd1 ?_)
      exact ⟨i+1,by omega,.cons rfl (.cons rfl (.cons rfl (.cons rfl (.cons rfl (.nil _))))),by omega,hf,hG.tail⟩
    · rintro k s G ⟨rfl,rfl,hlen⟩ hG
      refine ⟨fun _=>?_,fun j h=>by omega⟩
      have hc:XwH l x=true:=by
        unfold XwH
        exact decide_eq_true hlen
      rw [hc,Bool.true_or] at hf
      rw [hf,if_pos rfl] at hq
      have hG:Has G [(b9,⟨[I ((l.length+1:Nat):Int)],3,true⟩),(e,⟨[I 16],29,true⟩)]:=hG
      clear hn1 ho hx hp hc
      repeat(first|refine Zd1 ?_)
      exact XcN rfl rfl (XaR (hG.get 1 _ _ rfl)) (.refl _) (Xi.v _) (by rw [← hq];rfl)
  rw [List.drop_eq_nil_of_le (by omega),List.any_nil] at hf
  rw [hf,if_neg (by decide)] at hq
  repeat(first|refine Zd1 ?_|(refine ZA ?_;intro G hG))
  exact Zb2
end Go.Proofs.YtlcphjcpoinolaaGreat
