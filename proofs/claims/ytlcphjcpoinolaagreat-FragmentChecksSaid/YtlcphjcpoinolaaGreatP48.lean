/- Part of the proof: the walk over the program and its laws: Sd. -/
import Derived.Test.YtlcphjcpoinolaaGreatP0
import Derived.Test.YtlcphjcpoinolaaGreatP31
import Derived.Test.YtlcphjcpoinolaaGreatP47
set_option linter.unusedVariables false
namespace Go.Proofs.YtlcphjcpoinolaaGreat
open Go.RowKit Go.Th
set_option maxRecDepth 20000
def Xqu (l:List Style) (i:Nat) (es:XbA Int) (t:Nat):XbA Int × Nat:=match l with
  | []=>(es,t)
  | x::l=>Xqu l (i+1) (Xf8 es t x.id (I i)) (Xf9 es t x.id)
def XnB (l:List Style) (es:XbA Int) (id:Int):Option Style:=match Xdk es id with
  | some (.v (.int _ j))=>l[j.toNat]?
  | _=>none
def Xc3 (l:List Style) (es:XbA Int):Nat→Int→List Style
  | 0,_=>[]
  | n+1,id=>if id=0 then [] else match XnB l es id with
    | none=>[]
    | some x=>x::Xc3 l es n x.base
def Idx (n:Nat) (es:XbA Int):Prop:=∀ id,Xdk es id=none∨∃ j:Nat,j < n∧Xdk es id=some (I j)
theorem Xm1 {n:Nat}:∀ (l:List Style) (i:Nat) (es:XbA Int) (t:Nat),i+l.length≤n→Idx n es→Idx n (Xqu l i es t).1
  | [],_,_,_,_,h=>h
  | x::l,i,es,t,hl,h=>by
    rw [Xqu]
    refine Xm1 l (i+1) _ _ (by simp only [List.length_cons] at hl;omega) fun id=>?_
    rw [Xfi]
    by_cases e:id=x.id
    · rw [if_pos e];exact .inr ⟨i,by simp only [List.length_cons] at hl;omega,rfl⟩
    · rw [if_neg e];exact h id
theorem XfQ (l:List Style) (es:XbA Int):∀ (n:Nat) (id:Int),(Xc3 l es n id).length≤n
  | 0,_=>Nat.le_refl _
  | n+1,id=>by
    rw [Xc3]
    split
    · simp
    · split
      · simp
      · have:=XfQ l es n (by assumption:Style).base
        simp only [List.length_cons]
        omega
theorem XlW {l:List Style} {es:XbA Int} {n:Nat} {id:Int} {x:Style} {r:List Style} (h:Xc3 l es n id=x::r):∃ m,n=m+1∧id≠0∧XnB l es id=some x∧Xc3 l es m x.base=r:=by
  cases n with
  | zero=>rw [Xc3] at h;cases h
  | succ m =>
    rw [Xc3] at h
    split at h
    · cases h
    · rename_i h0
      split at h
      · cases h
      · rename_i y hy
        simp only [List.cons.injEq] at h
        obtain ⟨rfl,h⟩:=h
        exact ⟨m,rfl,h0,hy,h⟩
theorem Xob {l:List Style} {es:XbA Int} {n:Nat} {id:Int} (h:Xc3 l es n id=[]):n=0∨id=0∨XnB l es id=none:=by
  cases n with
  | zero=>exact .inl rfl
  | succ m =>
    rw [Xc3] at h
    split at h
    · rename_i h0;exact .inr (.inl h0)
    · split at h
      · rename_i h0;exact .inr (.inr h0)
      · cases h
theorem Xsr (l:List Style) (id:Int) (K:List (Nat × Blk)) (H:Xi) (hK:Has H K):AC Tryz.prog 167 [XN l,I id] H (fun p G=>∃ b,p=.fn (.func 198) [.ept [XN l] 0,.ptr b 0]∧Has G ((b,⟨[I id],3,true⟩)::K)):=by
  have hG:=hK
  refine Xv Tryz.func167 rfl rfl rfl ?_
  refine Zc ?_
  refine Zb ?_
  repeat(first|refine Zd ?_|(refine ZH ?_;intro id G hG))
  refine Za ?_
  rename_i b _ _
  refine Xz 2 (hG.perm (List.Perm.swap _ _ _)) rfl ?_
  clear hG
  intro G hG
  repeat(first|refine Zes ?_|refine Zav ?_)
  exact XC rfl rfl ⟨_,rfl,hG⟩
set_option maxHeartbeats 16000000 in
theorem Xqm (l:List Style) (hl:l.length≤1000000) (n:Nat) (id0 b:Int→Nat) (bid:Nat) (id:Int) :
    XBQ Tryz.prog 198 [.ept [XN l] 0,.ptr bid 0] [(bid,⟨[I id],3,true⟩)] [] ((Xc3 l (Xqu l 0 [] 0).1 n id).map fun x=>[.agg (Xt x)]) ((Xc3 l (Xqu l 0 [] 0).1 n id).length=n):=by
  intro lid S J X L hcut hy s G K h0 hG0
  obtain ⟨q,hq⟩:∃ q,Xqu l 0 [] 0=q:=⟨_,rfl⟩
  have hix:Idx l.length q.1:=by
    rw [← hq]
    exact Xm1 l 0 [] 0 (by omega) (fun id=>.inl (Xi3 id))
  rw [hq] at hcut hy ⊢
  obtain ⟨xs,hxs⟩:∃ xs,Xc3 l q.1 n id=xs:=⟨_,rfl⟩
  rw [hxs] at hcut hy ⊢
  rw [List.length_map] at hcut ⊢
  have hG:Has G ((bid,⟨[I id],3,true⟩)::(L s++K)):=hG0.swapL
  clear hG0
  refine Xv Tryz.func198 rfl rfl rfl ?_
  repeat(first|refine Zes ?_|(refine XiC kyI hG rfl rfl (by decide) rfl ?_;intro im G hG))
  refine Xg (S:=Nat × XbA Int × Nat) (fun x=>[(0,.yld lid),(1,.ept [XN l] 0),(2,.ptr bid 0),(4,.mp im),(10,XN l),(11,I l.length),(12,I x.1)])
    (fun x G=>x.1≤l.length∧Xqu (l.drop x.1) x.1 x.2.1 x.2.2=q∧Has G ((im,XU kyI x.2.1 x.2.2)::(bid,⟨[I id],3,true⟩)::(L s++K))) (fun x=>l.length - x.1) (0,[],0)
    (.cons rfl (.cons rfl (.cons rfl (.cons rfl (.cons rfl (.cons rfl (.cons rfl (.nil _)))))))) ⟨Nat.zero_le _,hq,hG⟩ ?_
  clear hG hq
  rintro ⟨i,es,t⟩ G ⟨hi,hf,hG⟩
  dsimp only at hi hf hG ⊢
  by_cases hil:i < l.length
  · obtain ⟨x,hx⟩:∃ x,l[i]?=some x:=⟨_,List.getElem?_eq_getElem hil⟩
    have ho:=Xp XaY l i x hx
    rw [X2 hx,Xqu] at hf
    repeat(first|refine Zes ?_|refine ZJ ?_|refine ZbG ?_|(refine XiB (XcN .i64) 1 hG rfl rfl rfl rfl rfl rfl rfl ?_;intro G hG)|(refine Zz ?_;intro G hG)|(refine ZI ?_;intro id G hG))
    exact ⟨(i+1,Xf8 es t x.id (I i),Xf9 es t x.id),by dsimp only;omega,.cons rfl (.cons rfl (.cons rfl (.cons rfl (.cons rfl (.cons rfl (.cons rfl (.nil _))))))),by dsimp only;omega,hf,hG.tail⟩
  rw [List.drop_eq_nil_of_le (by omega),Xqu] at hf
  subst hf
  dsimp only at *
  repeat(first|refine Zes ?_)
  have hG:Has _ ([(im,XU kyI es t),(bid,⟨[I id],3,true⟩)]++(L s++K)):=hG
  refine Xg (S:=Nat × Int × S) (fun x=>[(0,.yld lid),(1,.ept [XN l] 0),(2,.ptr bid 0),(4,.mp im)])
    (fun x G=>x.1≤xs.length∧Xc3 l es (n - x.1) x.2.1=xs.drop x.1∧J x.1 x.2.2∧Has G ((im,XU kyI es t)::(bid,⟨[I x.2.1],3,true⟩)::(L x.2.2++K))) (fun x=>xs.length - x.1) (0,id,s)
    (.cons rfl (.cons rfl (.cons rfl (.cons rfl (.nil _))))) ⟨Nat.zero_le _,by simpa using hxs,h0,hG⟩ ?_
  clear hG h0 hi hil
  rintro ⟨i,k,s⟩ G ⟨hi,hf,hJ,hG⟩
  dsimp only at hi hf hJ hG ⊢
  by_cases hil:i < xs.length
  · obtain ⟨x,hx⟩:∃ x,xs[i]?=some x:=⟨_,List.getElem?_eq_getElem hil⟩
    rw [X2 hx] at hf
    obtain ⟨m,hm,hk0,hnx,hrest⟩:=XlW hf
    obtain ⟨j,hjl,hj⟩:∃ j:Nat,j < l.length∧Xdk es k=some (I j):=by
      rcases hix k with h | h
      · unfold XnB at hnx;rw [h] at hnx;cases hnx
      · exact h
    have hlx:l[j]?=some x:=by
      unfold XnB at hnx;rw [hj] at hnx;simpa [I] using hnx
    have ho:=Xp XaY l j x hlx
    have hyc:=hy i s G ((im,XU kyI es t)::(bid,⟨[I k],3,true⟩)::K) [.agg (Xt x)] (by rw [List.getElem?_map,hx];rfl) hJ ((Has.swapL (A:=[(im,XU kyI es t),(bid,⟨[I k],3,true⟩)]) hG))
    have hj1:(Xdk es k).getD (zPV (.int .i64 0))=I j:=by rw [hj];rfl
    repeat(first|refine Zes ?_|refine Xn rfl rfl (by decide) (OpV.same (Xf6 (XcN .i64) rfl rfl rfl (hG.get 0 _ _ rfl) rfl (by exact hj1)) (by rw [hj];rfl:_=PV.tup [I j,B true])) ?_|refine Xn rfl rfl (by decide) (Xj rfl rfl (hG.get 1 _ _ rfl) rfl) ?_|refine ZbG ?_|(refine Xxa rfl rfl (by decide) rfl rfl rfl rfl hyc ?_;rintro p G ⟨s',hG,hp⟩)|refine Z8 ?_)
    rcases hp with ⟨rfl,hJ'⟩ | ⟨rfl,hX⟩
    · have hG:Has G ((im,XU kyI es t)::(bid,⟨[I k],3,true⟩)::(L s'++K)):=Has.swapL (B:=[(im,XU kyI es t),(bid,⟨[I k],3,true⟩)]) hG
      clear hyc
      repeat(first|refine Zes ?_|refine ZJ ?_|refine ZbG ?_|(refine ZaP ?_;intro G hG)|refine ZY ?_|refine Z1 ?_)
      exact ⟨(i+1,x.base,s'),by dsimp only;omega,.cons rfl (.cons rfl (.cons rfl (.cons rfl (.nil _)))),by dsimp only;omega,by dsimp only;rw [show n - (i+1)=m by omega];exact hrest,hJ',hG⟩
    · clear hyc
      repeat(first|refine Zes ?_)
      exact Xbr rfl (.inr rfl) ⟨s',Has.midcut (B:=[(im,XU kyI es t),(bid,⟨[I k],3,true⟩)]) hG,.inr hX⟩
  have hi2:i=xs.length:=by omega
  subst hi2
  rw [List.drop_length] at hf
  have hlen:xs.length≤n:=by rw [← hxs];exact XfQ l es n id
  have hfin:Has G (L s++([]++K)):=hG.tail.tail
  rcases Xob hf with h | h | h
  · exact absurd hJ (hcut (by omega) s)
  · subst h
    repeat(first|refine Zes ?_|refine ZS ?_|refine XbB ?_|refine Xbh ?_)
    exact Xbr rfl (.inl rfl) ⟨s,hfin,.inl hJ⟩
  · have hn:Xdk es k=none:=by
      rcases hix k with h2 | ⟨j,hjl,h2⟩
      · exact h2
      · unfold XnB at h;rw [h2] at h
        simp only [I,Int.toNat_natCast] at h
        rw [List.getElem?_eq_getElem hjl] at h;cases h
    have hj1:(Xdk es k).getD (zPV (.int .i64 0))=I 0:=by rw [hn];rfl
    by_cases k0:k=0
    · subst k0
      repeat(first|refine Zes ?_|refine ZS ?_|refine XbB ?_|refine Xbh ?_)
      exact Xbr rfl (.inl rfl) ⟨s,hfin,.inl hJ⟩
    · repeat(first|refine Zes ?_|refine Xn rfl rfl (by decide) (OpV.same (Xf6 (XcN .i64) rfl rfl rfl (hG.get 0 _ _ rfl) rfl (by exact hj1)) (by rw [hn];rfl:_=PV.tup [I 0,B false])) ?_|refine Z8 ?_|refine ZS ?_)
      exact Xbr rfl (.inr rfl) ⟨s,hfin,.inl hJ⟩
def XqP (l:List Style) (x:Style):Bool :=
  if x.base≠0∧isF l x.kind x.base=false then true else if x.next≠0 then (if x.kind=2 then true else !isF l 1 x.next) else false
def Xf3 (l:List Style) (x:Style):List Style:=Xc3 l (Xqu l 0 [] 0).1 (l.length+1) x.id
def XwE (l:List Style) (x:Style):Bool:=decide ((Xf3 l x).length=l.length+1)
def XAT (l:List Style):Int :=
  if 128 < l.length then 9 else if Xl0 (XrA l) l.length=0 then (if l.any (XqP l)=true then 25 else if l.any (XwE l)=true then 16 else 0) else Xl0 (XrA l) l.length
theorem Xqp (l:List Style) (x:Style) :
    (x.base≠0∧isF l x.kind x.base=false∧XqP l x=true) ∨
    ((x.base=0∨x.base≠0∧isF l x.kind x.base=true)∧(x.next=0∧XqP l x=false∨x.next≠0∧x.kind=2∧XqP l x=true∨x.next≠0∧x.kind≠2∧isF l 1 x.next=true∧XqP l x=false∨x.next≠0∧x.kind≠2∧isF l 1 x.next=false∧XqP l x=true)):=by
  unfold XqP
  by_cases c1:x.base=0 <;> by_cases c2:x.next=0 <;> by_cases c3:x.kind=2 <;> cases isF l x.kind x.base <;> cases isF l 1 x.next <;> simp [c1,c2,c3]
set_option maxHeartbeats 64000000 in
theorem XjQ (l:List Style) (hl:l.length≤1000000) (hp:∀ x ∈ l,x.props.length≤1000000):Iso Tryz.prog 104 [XN l] (fun p=>p=I (XAT l)):=by
  have hG:=Xd
  obtain ⟨q,hq⟩:∃ q,XAT l=q:=⟨_,rfl⟩
  rw [hq]
  unfold XAT at hq
  refine Xb Tryz.func104 rfl rfl rfl ?_
  refine Zc ?_
  refine Zb ?_
  repeat(first|(refine ZI ?_;intro id G hG)|(refine ZH ?_;intro id G hG))
  refine Za ?_
  rename_i b _ _
  refine Xz 1 (hG.perm (List.Perm.swap _ _ _)) rfl ?_
  clear hG
  intro G hG
  by_cases c1:128 < l.length
  · rw [if_pos c1] at hq
    repeat(first|refine Zes ?_|(refine Zz ?_;intro G hG))
    exact Zcc
  rw [if_neg c1] at hq
  repeat(first|refine Zes ?_)
  refine Xg (S:=Nat) (fun i=>[(1,.ept [XN l] 0),(2,.ptr id 0),(14,I l.length),(15,I i)]) (fun i G=>i≤l.length∧Xl0 (XrA l) l.length=Xqt (XrA l) (l.length - i) i∧Has G [(id,⟨[I 0],29,true⟩)]) (fun i=>l.length - i) 0
    (.cons rfl (.cons rfl (.cons rfl (.cons rfl (.nil _))))) ⟨Nat.zero_le _,rfl,hG⟩ ?_
  clear hG
  rintro i G ⟨hi,hf,hG⟩
  by_cases hil:i < l.length
  · have hk:=XuF l i hil hl hp
    have tk:∀ c ∈ [XN l,I i],Xk c:=TreeL.cons (XS _) (TreeL.cons (Xe _) TreeL.nil)
    rw [show l.length - i=(l.length - (i+1))+1 from by omega,Xqt] at hf
    by_cases h0:XrA l i=0
    · rw [if_pos h0] at hf
      rw [h0] at hk
      repeat(first|refine Zes ?_|(refine Zb2 ?_;rintro _ rfl))
      exact Zby
    · rw [if_neg h0] at hf
      rw [hf,if_neg h0] at hq
      generalize XrA l i=x at hk h0 hq
      repeat(first|refine Zes ?_|(refine Zb2 ?_;rintro _ rfl)|(refine Zz ?_;intro G hG))
      exact Zcc
  rw [show l.length - i=0 from by omega,Xqt] at hf
  rw [hf,if_pos rfl] at hq
  repeat(first|refine Zes ?_)
  refine Xg (S:=Nat) (fun i=>[(1,.ept [XN l] 0),(2,.ptr id 0),(25,XN l),(26,I l.length),(27,I i)]) (fun i G=>i≤l.length∧l.any (XqP l)=(l.drop i).any (XqP l)∧Has G [(id,⟨[I 0],29,true⟩)]) (fun i=>l.length - i) 0
    (.cons rfl (.cons rfl (.cons rfl (.cons rfl (.cons rfl (.nil _)))))) ⟨Nat.zero_le _,rfl,hG⟩ ?_
  clear hG hf hi hil
  rintro i G ⟨hi,hf,hG⟩
  by_cases hil:i < l.length
  · obtain ⟨x,hx⟩:∃ x,l[i]?=some x:=⟨_,List.getElem?_eq_getElem hil⟩
    have ho:=Xp XaY l i x hx
    obtain ⟨e,he⟩:∃ e,e=id:=⟨_,rfl⟩
    rw [← he] at hG ⊢
    clear he
    repeat(first|refine Zez ?_)
    refine Zj ?_
    refine Zc ?_
    refine Zb ?_
    repeat(first|refine ZbG ?_|refine Zt ?_|(refine Zz ?_;intro G hG)|(refine ZI ?_;intro id G hG))
    refine Za ?_
    refine Zc ?_
    refine Xz (C:=⟨Xt x,100,true⟩) 6 hG rfl ?_
    clear hG
    intro G hG
    have hk1:=Xs8 l x.kind x.base hl
    have tk1:∀ c ∈ [XN l,I x.kind,I x.base],Xk c:=TreeL.cons (XS _) (TreeL.cons (Xe _) (TreeL.cons (Xe _) TreeL.nil))
    have hk2:=Xs8 l 1 x.next hl
    have tk2:∀ c ∈ [XN l,I 1,I x.next],Xk c:=TreeL.cons (XS _) (TreeL.cons (Xe _) (TreeL.cons (Xe _) TreeL.nil))
    rw [X2 hx,List.any_cons] at hf
    obtain ⟨bb,hbb⟩:∃ bb,XqP l x=bb:=⟨_,rfl⟩
    rw [hbb] at hf
    refine Xcx (S:=Unit) (fun _=>[(1,.ept [XN l] 0),(2,.ptr e 0),(25,XN l),(26,I l.length),(27,I i),(59,B bb)]) (fun _ G=>Has G [(e,⟨[I 0],29,true⟩)]) ?_ ?_
    · have hs:=Xqp l x
      rw [hbb] at hs
      clear hbb
      rcases hs with ⟨d1,d2,d3⟩ | ⟨⟨d1⟩ | ⟨d1,d2⟩,⟨d3,d4⟩ | ⟨d3,d5,d4⟩ | ⟨d3,d5,d6,d4⟩ | ⟨d3,d5,d6,d4⟩⟩ <;> subst bb <;> (try rw [d2] at hk1) <;> (try rw [d6] at hk2)
      all_goals (
        repeat(first|refine Zes ?_|(refine Xr rfl rfl rfl rfl rfl rfl (by decide) hk1 tk1 ?_;rintro _ rfl)|(refine Xr rfl rfl rfl rfl rfl rfl (by decide) hk2 tk2 ?_;rintro _ rfl)|refine ZX ?_)
      )
      all_goals (exact ⟨(),.cons rfl (.cons rfl (.cons rfl (.cons rfl (.cons rfl (.cons rfl (.nil _)))))),hG⟩)
    clear hk1 hk2 tk1 tk2 hG
    rintro _ G hG
    cases bb with
    | true =>
      rw [Bool.true_or] at hf
      rw [hf,if_pos rfl] at hq
      repeat(first|refine Zes ?_|(refine Zz ?_;intro G hG))
      exact Zcc
    | false =>
      rw [Bool.false_or] at hf
      repeat(first|refine Zes ?_)
      exact Zeg
  rw [List.drop_eq_nil_of_le (by omega),List.any_nil] at hf
  rw [hf,if_neg (by decide)] at hq
  repeat(first|refine Zes ?_)
  refine Xg (S:=Nat) (fun i=>[(1,.ept [XN l] 0),(2,.ptr id 0),(61,XN l),(62,I l.length),(63,I i)]) (fun i G=>i≤l.length∧l.any (XwE l)=(l.drop i).any (XwE l)∧Has G [(id,⟨[I 0],29,true⟩)]) (fun i=>l.length - i) 0
    (.cons rfl (.cons rfl (.cons rfl (.cons rfl (.cons rfl (.nil _)))))) ⟨Nat.zero_le _,rfl,hG⟩ ?_
  clear hG hf hi hil
  rintro i G ⟨hi,hf,hG⟩
  by_cases hil:i < l.length
  · obtain ⟨x,hx⟩:∃ x,l[i]?=some x:=⟨_,List.getElem?_eq_getElem hil⟩
    have ho:=Xp XaY l i x hx
    rw [X2 hx,List.any_cons] at hf
    obtain ⟨e,he⟩:∃ e,e=id:=⟨_,rfl⟩
    rw [← he] at hG ⊢
    clear he
    repeat(first|refine Zez ?_)
    refine Zj ?_
    refine Zc ?_
    refine Zb ?_
    repeat(first|refine ZbG ?_|refine Zt ?_|(refine Zz ?_;intro G hG)|(refine ZI ?_;intro id G hG))
    refine Za ?_
    refine Xz (C:=⟨Xt x,100,true⟩) 8 hG rfl ?_
    clear hG
    intro G hG
    repeat(first|refine Zez ?_|(refine Zz ?_;intro G hG)|(refine ZI ?_;intro id G hG))
    obtain ⟨b9,hb9⟩:∃ b9,b9=id:=⟨_,rfl⟩
    rw [← hb9] at hG ⊢
    clear hb9
    have hG:Has _ [(b9,⟨[I 0],3,true⟩),(e,⟨[I 0],29,true⟩)]:=hG
    refine X5 rfl rfl rfl rfl rfl rfl (by decide) (Xsr l x.id _ _ hG) ?_
    rintro _ G ⟨bc,rfl,hG⟩
    repeat(first|refine Za ?_)
    refine Zj ?_
    have hn1:=XfQ l (Xqu l 0 [] 0).1 (l.length+1) x.id
    refine XjG (S:=Nat × Int) (xs:=(Xf3 l x).map fun x=>[.agg (Xt x)]) (C:=[(bc,⟨[I x.id],3,true⟩)]) (C':=[]) (K:=[]) (cut:=(Xf3 l x).length=l.length+1)
      (L:=fun s=>[(b9,⟨[I s.1],3,true⟩),(e,⟨[I s.2],29,true⟩)]) (I:=fun i s=>s=(i,0)∧i≤l.length) (X:=fun k s=>k=1∧s=(l.length+1,16)∧(Xf3 l x).length=l.length+1)
      rfl (Xqm l hl (l.length+1) (fun _=>0) (fun _=>0) bc x.id) ?_ ?_ (by decide) (0,0) ⟨rfl,Nat.zero_le _⟩ (hG.perm (List.Perm.trans (List.Perm.swap _ _ _) (List.Perm.cons _ (List.Perm.swap _ _ _)))) ?_ ?_ ?_
    · rintro h s ⟨h1,h2⟩
      rw [List.length_map] at h2
      omega
    · intro args ha
      obtain ⟨y,_,rfl⟩:=List.mem_map.1 ha
      rfl
    · rintro j args s G K' hj ⟨rfl,hjl⟩ hG
      obtain ⟨y,hy,rfl⟩:∃ y,(Xf3 l x)[j]?=some y∧[.agg (Xt y)]=args:=by
        rw [List.getElem?_map] at hj
        exact Option.map_eq_some_iff.1 hj
      have hjx:j < (Xf3 l x).length:=(List.getElem?_eq_some_iff.1 hy).1
      clear hy
      have hG:Has G ((b9,⟨[I j],3,true⟩)::(e,⟨[I 0],29,true⟩)::K'):=hG
      have hn2:(Xf3 l x).length≤l.length+1:=hn1
      clear hn1 hj ho hx hf hq hp
      by_cases hjj:j+1≤l.length
      · repeat(first|refine Zes ?_|(refine Zz ?_;intro G hG)|refine Z1 ?_)
        exact ⟨(j+1,0),⟨rfl,hjj⟩,hG⟩
      · repeat(first|refine Zes ?_|(refine Zz ?_;intro G hG)|(refine ZaP ?_;intro G hG))
        exact ⟨(j+1,16),⟨rfl,by rw [show j=l.length by omega],by omega⟩,hG⟩
    · rintro s G ⟨rfl,hjl⟩ hG
      rw [List.length_map] at hjl
      have hc:XwE l x=false:=by
        unfold XwE
        exact decide_eq_false (by omega)
      rw [hc,Bool.false_or] at hf
      have hG:Has G [(b9,⟨[I (((Xf3 l x).map fun x=>[PV.agg (Xt x)]).length:Nat)],3,true⟩),(e,⟨[I 0],29,true⟩)]:=hG
      clear hn1 ho hx hp hc
      repeat(first|refine Zes ?_)
      exact ⟨i+1,by omega,.cons rfl (.cons rfl (.cons rfl (.cons rfl (.cons rfl (.nil _))))),by omega,hf,hG.tail⟩
    · rintro k s G ⟨rfl,rfl,hlen⟩ hG
      refine ⟨fun _=>?_,fun j h=>by omega⟩
      have hc:XwE l x=true:=by
        unfold XwE
        exact decide_eq_true hlen
      rw [hc,Bool.true_or] at hf
      rw [hf,if_pos rfl] at hq
      have hG:Has G [(b9,⟨[I ((l.length+1:Nat):Int)],3,true⟩),(e,⟨[I 16],29,true⟩)]:=hG
      clear hn1 ho hx hp hc
      repeat(first|refine Zes ?_)
      exact XcK rfl rfl (XaV (hG.get 1 _ _ rfl)) (.refl _) (Xk.v _) (by rw [← hq];rfl)
  rw [List.drop_eq_nil_of_le (by omega),List.any_nil] at hf
  rw [hf,if_neg (by decide)] at hq
  repeat(first|refine Zes ?_|(refine Zz ?_;intro G hG))
  exact Zcc
end Go.Proofs.YtlcphjcpoinolaaGreat
