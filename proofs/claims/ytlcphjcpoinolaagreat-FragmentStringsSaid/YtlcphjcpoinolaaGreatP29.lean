/- Part of the proof: the walk over the program and its laws: Fi Fj. -/
import Derived.Test.YtlcphjcpoinolaaGreatP0
import Derived.Test.YtlcphjcpoinolaaGreatP28
set_option linter.unusedVariables false
namespace Go.Proofs.YtlcphjcpoinolaaGreat
open Go.RowKit Go.Th
set_option maxRecDepth 20000
mutual
def idA:Item→List Int
  | .mk k _ i _ _ f r=>(if k=6∨k=7 then [i] else [])++Xfg f++Xhh r
def Xfg:List Item→List Int
  | []=>[]
  | x::l=>idA x++Xfg l
def Xhh:List Row→List Int
  | []=>[]
  | .mk _ c::l=>XlX c++Xhh l
def XlX:List Cell→List Int
  | []=>[]
  | .mk i _ f::l=>([i]++Xfg f)++XlX l
end
mutual
theorem Xvi:∀ x,(idA x).length≤XbH x
  | .mk k c i t h f r=>by
    have h1:=XdK f
    have h2:=Xkx r
    rw [idA,XbH,List.length_append,List.length_append]
    have:(if k=6∨k=7 then [i] else []).length≤1:=by split <;> simp
    omega
theorem XdK:∀ l,(Xfg l).length≤Xz l
  | []=>Nat.le_refl _
  | x::l=>by
    have h1:=Xvi x
    have h2:=XdK l
    rw [Xfg,Xz,List.length_append];omega
theorem Xkx:∀ l,(Xhh l).length≤XbZ l
  | []=>Nat.le_refl _
  | .mk h c::l=>by
    have h1:=Xky c
    have h2:=Xkx l
    rw [Xhh,XbZ,XfA,List.length_append];omega
theorem Xky:∀ l,(XlX l).length≤Xco l
  | []=>Nat.le_refl _
  | .mk i h f::l=>by
    have h1:=XdK f
    have h2:=Xky l
    rw [XlX,Xco,XfB,List.length_append,List.length_append]
    simp only [List.length_cons,List.length_nil];omega
end
theorem Xek (l:List Int):(l.map I).length=l.length * 1:=by simp
abbrev XAP (l:List Item):Prop:=Xz l≤300→Iso Tryz.prog 15 [Xk l] (fun p=>p=XlT (Xfg l))
set_option maxHeartbeats 64000000 in
theorem Xsb (l:List Item) (hI:∀ x ∈ l,∀ k c i t h f r,x=.mk k c i t h f r→XAP f∧∀ y ∈ r,∀ h cs,y=.mk h cs→∀ z ∈ cs,∀ i hh f,z=.mk i hh f→XAP f):XAP l:=by
  intro hc
  have hll:=XaH l
  have hql:=XdK l
  obtain ⟨q,hq⟩:∃ q,Xfg l=q:=⟨_,rfl⟩
  rw [hq] at hql ⊢
  have hG:=Xc
  refine Xb Tryz.func15 rfl rfl rfl ?_
  repeat(first|refine Zd1 ?_)
  refine XQ 3 3 1 hG rfl ?_
  intro o G hG
  refine Xg (S:=Nat × Nat × List Int) (fun x=>[(3,.sl x.2.1 0 x.2.2.length 1),(10,Xk l),(11,I l.length),(12,I x.1)])
    (fun x G=>x.1≤l.length∧x.2.2++Xfg (l.drop x.1)=q∧Has G [(x.2.1,⟨x.2.2.map I,3,true⟩)]) (fun x=>l.length - x.1) (0,o,[])
    (.cons rfl (.cons rfl (.cons rfl (.cons rfl (.nil _))))) ⟨Nat.zero_le _,hq,hG⟩ ?_
  clear hG hq
  rintro ⟨i,o,out⟩ G ⟨hi,hf,hG⟩
  dsimp only at hi hf hG ⊢
  by_cases hil:i < l.length
  rotate_left
  · have ei:i=l.length:=by omega
    subst ei
    rw [List.drop_length,Xfg,List.append_nil] at hf
    subst hf
    repeat(first|refine Zd1 ?_)
    exact XJ rfl rfl (Conv.own hG (k:=0) rfl (Xek out)) (XfM out) rfl
  obtain ⟨x,hx⟩:∃ x,l[i]?=some x:=⟨_,List.getElem?_eq_getElem hil⟩
  have ho:=Xu XU l i x hx
  have hxm:=List.mem_of_getElem? hx
  have hIx:=hI x hxm
  have hxc:=XcC hxm
  rw [Xak hx,Xfg] at hf
  clear hI
  obtain ⟨k,c,d,t,h,f,r⟩:=x
  obtain ⟨hf1,hf2⟩:=hIx _ _ _ _ _ _ _ rfl
  rw [idA] at hf
  rw [XbH] at hxc
  rw [XK] at ho
  have hrl:=Xcf r
  have hif:=hf1 (by omega)
  have hfl:=XdK f
  have tf:∀ c ∈ [Xk f],Xi c:=TreeL.cons (XF _) TreeL.nil
  clear hIx hx hxm hf1
  rw [← List.append_assoc,← List.append_assoc,← List.append_assoc] at hf
  obtain ⟨out2,ho2⟩:∃ out2,out++(if k=6∨k=7 then [d] else [])=out2:=⟨_,rfl⟩
  rw [ho2] at hf
  have hlq:out2.length≤q.length:=by rw [← hf];simp only [List.length_append];omega
  repeat(first|refine Zd7 ?_)
  refine Zh ?_
  refine Zc ?_
  refine Zb ?_
  repeat(first|refine ZbU ?_|refine Zu ?_|(refine ZA ?_;intro G hG)|(refine ZD ?_;intro id G hG))
  refine Za ?_
  refine Zdu ?_
  clear hG
  intro G hG
  have hol:out.length≤out2.length:=by rw [← ho2,List.length_append];omega
  refine Zc ?_
  refine Xcw (S:=Nat) (fun o2=>[(3,.sl o2 0 out2.length 1),(5,.ept [I k,I c,I d,S t,Xn h.props,I h.ins,I h.move,Xy h.dels,Xx h.lyrs,Xk f,X7 r] 0),(10,Xk l),(11,I l.length),(12,I i)]) (fun o2 G=>Has G [(o2,⟨out2.map I,3,true⟩)]) ?_ ?_
  · by_cases k6:k=6
    · rw [if_pos (.inl k6)] at ho2
      have hl2:out.length+1=out2.length:=by rw [← ho2];simp
      have hm2:out.map I++[I d]=out2.map I:=by rw [← ho2];simp
      repeat(first|refine Zd1 ?_|(refine Zdv ?_;intro o2 G hG)|(refine ZL ?_;intro id G hG))
      exact Zdw
    · by_cases k7:k=7
      · rw [if_pos (.inr k7)] at ho2
        have hl2:out.length+1=out2.length:=by rw [← ho2];simp
        have hm2:out.map I++[I d]=out2.map I:=by rw [← ho2];simp
        repeat(first|refine Zd1 ?_|(refine Zdv ?_;intro o2 G hG)|(refine ZL ?_;intro id G hG))
        exact Zdw
      · rw [if_neg (fun h=>h.elim k6 k7),List.append_nil] at ho2
        subst ho2
        repeat(first|refine Zd1 ?_|refine ZN ?_)
        exact ⟨o,.cons rfl (.cons rfl (.cons rfl (.cons rfl (.cons rfl (.nil _))))),hG⟩
  clear hG ho2 hol
  rintro o2 G hG
  obtain ⟨out3,ho3⟩:∃ out3,out2++Xfg f=out3:=⟨_,rfl⟩
  rw [ho3] at hf
  have hl3:out2.length+(Xfg f).length=out3.length:=by rw [← ho3,List.length_append]
  have hm3:out2.map I++(Xfg f).map I=out3.map I:=by rw [← ho3,List.map_append]
  have on3:=Xnl (Xfg f)
  clear ho3
  generalize Xfg f=jf at hif hfl hl3 hm3 on3
  repeat(first|refine Zd7 ?_|(refine Xr rfl rfl rfl rfl rfl rfl (by decide) hif tf ?_;rintro _ rfl)|(refine Xag 0 hG rfl rfl (by decide) rfl rfl rfl rfl rfl rfl (Xek out2) rfl rfl (by exact on3) (by omega) (by omega) ?_;intro o3 G hG)|refine Zv ?_)
  rw [hl3]
  have hG:Has G [(o3,⟨out3.map I,3,true⟩)]:=XbV hG hm3
  clear hif tf hl3 hm3 on3 hfl hlq
  refine Zh ?_
  refine Xg (S:=Nat × Nat × List Int) (fun x=>[(3,.sl x.2.1 0 x.2.2.length 1),(10,Xk l),(11,I l.length),(12,I i),(35,X7 r),(36,I r.length),(37,I x.1)])
    (fun x G=>x.1≤r.length∧x.2.2++Xhh (r.drop x.1)++Xfg (l.drop (i+1))=q∧Has G [(x.2.1,⟨x.2.2.map I,3,true⟩)]) (fun x=>r.length - x.1) (0,o3,out3)
    (.cons rfl (.cons rfl (.cons rfl (.cons rfl (.cons rfl (.cons rfl (.cons rfl (.nil _)))))))) ⟨Nat.zero_le _,hf,hG⟩ ?_
  clear hG hf
  rintro ⟨j,o,out⟩ G ⟨hj,hf,hG⟩
  dsimp only at hj hf hG ⊢
  by_cases hjl:j < r.length
  rotate_left
  · rw [List.drop_eq_nil_of_le (by omega),Xhh,List.append_nil] at hf
    clear hf2
    repeat(first|refine Zd1 ?_)
    exact ⟨(i+1,o,out),by dsimp only;omega,.cons rfl (.cons rfl (.cons rfl (.cons rfl (.nil _)))),by dsimp only;omega,hf,hG⟩
  obtain ⟨x,hx⟩:∃ x,r[j]?=some x:=⟨_,List.getElem?_eq_getElem hjl⟩
  have ho:=Xu XaX r j x hx
  have hxm:=List.mem_of_getElem? hx
  have hyc:=XcB hxm
  have hf3:=hf2 x hxm
  rw [Xak hx] at hf
  obtain ⟨h2,cs⟩:=x
  rw [XfA] at hyc
  have hcsl:=Xcg cs
  rw [Xhh,← List.append_assoc] at hf
  rw [X2] at ho
  clear hx
  repeat(first|refine Zd7 ?_)
  refine Zh ?_
  refine Zc ?_
  refine Zb ?_
  repeat(first|refine Zcz ?_|refine Zu ?_|(refine ZA ?_;intro G hG)|(refine ZD ?_;intro id G hG))
  refine Za ?_
  refine Zdx ?_
  clear hG
  intro G hG
  repeat(first|refine Zd1 ?_)
  refine Xg (S:=Nat × Nat × List Int) (fun x=>[(3,.sl x.2.1 0 x.2.2.length 1),(10,Xk l),(11,I l.length),(12,I i),(35,X7 r),(36,I r.length),(37,I j),(42,Xau cs),(43,I cs.length),(44,I x.1)])
    (fun x G=>x.1≤cs.length∧x.2.2++XlX (cs.drop x.1)++Xhh (r.drop (j+1))++Xfg (l.drop (i+1))=q∧Has G [(x.2.1,⟨x.2.2.map I,3,true⟩)]) (fun x=>cs.length - x.1) (0,o,out)
    (.cons rfl (.cons rfl (.cons rfl (.cons rfl (.cons rfl (.cons rfl (.cons rfl (.cons rfl (.cons rfl (.cons rfl (.nil _))))))))))) ⟨Nat.zero_le _,hf,hG⟩ ?_
  clear hG hf ho
  rintro ⟨u,o,out⟩ G ⟨hu,hf,hG⟩
  dsimp only at hu hf hG ⊢
  by_cases hul:u < cs.length
  rotate_left
  · rw [List.drop_eq_nil_of_le (by omega),XlX,List.append_nil] at hf
    clear hf2 hf3
    repeat(first|refine Zd1 ?_)
    exact ⟨(j+1,o,out),by dsimp only;omega,.cons rfl (.cons rfl (.cons rfl (.cons rfl (.cons rfl (.cons rfl (.cons rfl (.nil _))))))),by dsimp only;omega,hf,hG⟩
  obtain ⟨x,hx⟩:∃ x,cs[u]?=some x:=⟨_,List.getElem?_eq_getElem hul⟩
  have ho:=Xu XaP cs u x hx
  have hxm3:=List.mem_of_getElem? hx
  have hzc:=XcE hxm3
  have hm3:=hf3 _ _ rfl x hxm3
  rw [Xak hx] at hf
  obtain ⟨d3,h3,f3⟩:=x
  rw [XfB] at hzc
  have hif:=hm3 _ _ _ rfl (by omega)
  have hfl:=XdK f3
  have tf:∀ c ∈ [Xk f3],Xi c:=TreeL.cons (XF _) TreeL.nil
  rw [XlX,← List.append_assoc,← List.append_assoc] at hf
  rw [XZ] at ho
  clear hx hf2 hf3 hm3
  obtain ⟨out2,ho2⟩:∃ out2,out++[d3]=out2:=⟨_,rfl⟩
  rw [ho2] at hf
  have hl2:out.length+1=out2.length:=by rw [← ho2];simp
  have hm2:out.map I++[I d3]=out2.map I:=by rw [← ho2];simp
  obtain ⟨out3,ho3⟩:∃ out3,out2++Xfg f3=out3:=⟨_,rfl⟩
  rw [ho3] at hf
  have hlq:out3.length≤q.length:=by rw [← hf];simp only [List.length_append];omega
  have hl3:out2.length+(Xfg f3).length=out3.length:=by rw [← ho3,List.length_append]
  have hm3:out2.map I++(Xfg f3).map I=out3.map I:=by rw [← ho3,List.map_append]
  have on3:=Xnl (Xfg f3)
  clear ho3 ho2
  generalize Xfg f3=jf at hif hfl hl3 hm3 on3
  repeat(first|refine Zd7 ?_)
  refine Zh ?_
  refine Zc ?_
  refine Zb ?_
  repeat(first|refine ZcA ?_|refine Zu ?_|(refine ZA ?_;intro G hG)|(refine ZD ?_;intro id G hG))
  refine Za ?_
  refine Zdy ?_
  clear hG
  intro G hG
  obtain ⟨H1,e1⟩:∃ X,X=G++[some (Blk.mk [I d3] 3 true)]:=⟨_,rfl⟩
  have hG1:=hG.new (Blk.mk [I d3] 3 true)
  rw [← e1] at hG1
  obtain ⟨H2,e2⟩:∃ X,X=H1.set o none++[some (Blk.mk (out.map I++[I d3]) 3 true)]:=⟨_,rfl⟩
  have hG2:=hG1.grow (k:=1) rfl (Blk.mk (out.map I++[I d3]) 3 true)
  rw [← e2] at hG2
  have hG2:Has H2 [(G.length,⟨[I d3],3,true⟩),(H1.length,⟨out.map I++[I d3],3,true⟩)]:=hG2
  obtain ⟨H3,e3⟩:∃ X,X=H2.set H1.length none++[some (Blk.mk ((out.map I++[I d3])++jf.map I) 3 true)]:=⟨_,rfl⟩
  have hG3:=hG2.grow (k:=1) rfl (Blk.mk ((out.map I++[I d3])++jf.map I) 3 true)
  rw [← e3] at hG3
  have hle:(out.map I++[I d3]).length=(out.length+1) * 1:=by simp
  refine Zdk ?_
  repeat(first|refine Zak ?_|refine Zcr ?_|refine Y_w 1 (by decide +kernel) rfl rfl rfl rfl (by decide) (Xdq rfl rfl rfl rfl (hG1.cellsOf (k:=0) rfl rfl) rfl (XeJ (hG1.get 1 _ _ rfl) rfl rfl (by rw [Xek];exact Nat.beq_refl _)) (by omega) (by omega)) e2 ?_|refine Y_k rfl rfl rfl (by decide) (fun _=>Iso.K rfl rfl rfl rfl hif tf) ?_|refine Y_w 2 (by decide +kernel) rfl rfl rfl rfl (by decide) (Xdq rfl rfl rfl rfl rfl (by exact on3) (XeJ (hG2.get 1 _ _ rfl) rfl rfl (by rw [hle];exact Nat.beq_refl _)) (by omega) (by omega)) e3 ?_|refine Zd6 ?_)
  rw [DY]
  have hG:Has H3 [(G.length,⟨[I d3],3,true⟩),(H2.length,⟨(out.map I++[I d3])++jf.map I,3,true⟩)]:=hG3
  have hG:=XbV hG.tail (by rw [hm2,hm3]:_=out3.map I)
  have hl4:out.length+1+jf.length=out3.length:=by omega
  have hsl:PV.sl (hsL [G,H1,H2,H3] 2).length 0 (out.length+1+jf.length) 1=.sl H2.length 0 out3.length 1:=by rw [hl4];rfl
  rw [hsl]
  clear hif tf on3 e1 e2 e3 hG1 hG2 hG3
  repeat(first|refine Zd1 ?_)
  exact ⟨(u+1,H2.length,out3),by dsimp only;omega,.cons rfl (.cons rfl (.cons rfl (.cons rfl (.cons rfl (.cons rfl (.cons rfl (.cons rfl (.cons rfl (.cons rfl (.nil _)))))))))),by dsimp only;omega,hf,hG⟩
theorem Xsc:∀ (n:Nat) (l:List Item),SizeOf.sizeOf l≤n→XAP l:=by
  intro n
  induction n with
  | zero=>intro l hl;cases l <;> simp at hl <;> omega
  | succ n ih =>
    intro l hl
    refine Xsb l fun x hx k c i t h f r e=>?_
    obtain ⟨a1,a2⟩:=Xia hx hl e
    exact ⟨ih f a1,fun y hy h cs e z hz i hh f e2=>ih f (a2 y hy h cs e z hz i hh f e2)⟩
theorem Xl0 (l:List Item):XAP l:=Xsc _ l (Nat.le_refl _)
end Go.Proofs.YtlcphjcpoinolaaGreat
namespace Go.Proofs.YtlcphjcpoinolaaGreat
open Go.RowKit Go.Th
set_option maxRecDepth 20000
end Go.Proofs.YtlcphjcpoinolaaGreat
