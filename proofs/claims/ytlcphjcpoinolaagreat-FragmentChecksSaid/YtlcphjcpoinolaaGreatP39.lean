/- Part of the proof: the walk over the program and its laws: Pl. -/
import Derived.Test.YtlcphjcpoinolaaGreatP0
import Derived.Test.YtlcphjcpoinolaaGreatP31
set_option linter.unusedVariables false
namespace Go.Proofs.YtlcphjcpoinolaaGreat
open Go.RowKit Go.Th
set_option maxRecDepth 20000
section
variable {σ:Type} (J:σ→Prop) (L:σ→List (Nat × Blk)) (g:FuncId) (cap:List PV)
abbrev XkQ (l:List Item):Prop:=∀ (s:σ) (G:Xi) (K:List (Nat × Blk)),J s→Has G (L s++K)→AC Tryz.prog 121 [Xh l,.fn (.func g) cap] G (fun p G'=>p=.tup []∧∃ s',J s'∧Has G' (L s'++K))
abbrev Xog (h:Head):Prop:=∀ (s:σ) (G:Xi) (K:List (Nat × Blk)),J s→Has G (L s++K)→AC Tryz.prog g ([.agg (XL h)]++cap) G (fun p G'=>p=.tup []∧∃ s',J s'∧Has G' (L s'++K))
structure RowC (x:Row):Prop where
  h:∀ h cs,x=.mk h cs→Xog J L g cap h∧cs.length≤1000000∧∀ y ∈ cs,∀ i h f,y=.mk i h f→Xog J L g cap h∧XkQ J L g cap f
structure ItmC (x:Item):Prop where
  h:∀ k c i t h f r,x=.mk k c i t h f r→Xog J L g cap h∧XkQ J L g cap f∧r.length≤1000000∧∀ y ∈ r,RowC J L g cap y
end
set_option maxHeartbeats 64000000 in
theorem Xi0 {σ:Type} (J:σ→Prop) (L:σ→List (Nat × Blk)) (g:FuncId) (cap:List PV) (l:List Item) (hl:l.length≤1000000) (hb:∀ x ∈ l,ItmC J L g cap x):XkQ J L g cap l:=by
  intro s G K hJ hG
  refine Xv Tryz.func121 rfl rfl rfl ?_
  repeat(first|refine Zes ?_)
  refine Xg (S:=Nat × σ) (fun x=>[(1,.fn (.func g) cap),(10,Xh l),(11,I l.length),(12,I x.1)]) (fun x G=>x.1≤l.length∧J x.2∧Has G (L x.2++K)) (fun x=>l.length - x.1) (0,s)
    (.cons rfl (.cons rfl (.cons rfl (.cons rfl (.nil _))))) ⟨Nat.zero_le _,hJ,hG⟩ ?_
  clear hG hJ
  rintro ⟨i,s⟩ G ⟨hi,hJ,hG⟩
  dsimp only at hi hJ hG ⊢
  by_cases hil:i < l.length
  rotate_left
  · repeat(first|refine Zes ?_|refine XbB ?_|refine Xbh ?_)
    exact Xbr rfl (.inl rfl) ⟨rfl,s,hJ,hG⟩
  obtain ⟨x,hx⟩:∃ x,l[i]?=some x:=⟨_,List.getElem?_eq_getElem hil⟩
  have ho:=Xp X4 l i x hx
  obtain ⟨hbx⟩:=hb x (List.mem_of_getElem? hx)
  obtain ⟨k,c,d,t,h,f,r⟩:=x
  obtain ⟨hh,hf,hrl,hr⟩:=hbx _ _ _ _ _ _ _ rfl
  rw [XG] at ho
  clear hb hbx hx
  repeat(first|refine Zez ?_)
  refine Zj ?_
  refine Zc ?_
  refine Zb ?_
  repeat(first|refine Zb3 ?_|refine Zt ?_|(refine Zz ?_;intro G hG)|(refine ZI ?_;intro id G hG))
  refine Za ?_
  refine ZdR ?_
  clear hG
  intro G hG
  repeat(first|refine Zez ?_)
  refine ZcM ?_
  rintro _ G ⟨rfl,s,hJ,hG⟩
  by_cases k6:k=6
  · repeat(first|refine Zes ?_)
    refine X5 rfl rfl rfl rfl rfl rfl (by decide) (hf s _ K hJ hG) ?_
    rintro _ G ⟨rfl,s,hJ,hG⟩
    repeat(first|refine Zes ?_|refine ZJ ?_)
    exact ZcN
  by_cases k7:k=7
  rotate_left
  · repeat(first|refine Zes ?_)
    exact ZcN
  subst k7
  clear hf hh
  repeat(first|refine Zes ?_)
  refine Xg (S:=Nat × σ) (fun x=>[(1,.fn (.func g) cap),(10,Xh l),(11,I l.length),(12,I i),(31,XD r),(32,I r.length),(33,I x.1)]) (fun x G=>x.1≤r.length∧J x.2∧Has G (L x.2++K)) (fun x=>r.length - x.1) (0,s)
    (.cons rfl (.cons rfl (.cons rfl (.cons rfl (.cons rfl (.cons rfl (.cons rfl (.nil _)))))))) ⟨Nat.zero_le _,hJ,hG⟩ ?_
  clear hG hJ ho
  rintro ⟨j,s⟩ G ⟨hj,hJ,hG⟩
  dsimp only at hj hJ hG ⊢
  by_cases hjl:j < r.length
  rotate_left
  · repeat(first|refine Zes ?_)
    exact ZcN
  obtain ⟨x,hx⟩:∃ x,r[j]?=some x:=⟨_,List.getElem?_eq_getElem hjl⟩
  have ho:=Xp Xaq r j x hx
  obtain ⟨hbx⟩:=hr x (List.mem_of_getElem? hx)
  obtain ⟨h2,cs⟩:=x
  obtain ⟨hh,hcl,hcs⟩:=hbx _ _ rfl
  rw [X0] at ho
  clear hr hbx hx
  repeat(first|refine Zez ?_)
  refine Zj ?_
  refine Zc ?_
  refine Zb ?_
  repeat(first|refine Zbk ?_|refine Zt ?_|(refine Zz ?_;intro G hG)|(refine ZI ?_;intro id G hG))
  refine Za ?_
  refine ZdS ?_
  clear hG
  intro G hG
  repeat(first|refine Zez ?_)
  refine ZcM ?_
  rintro _ G ⟨rfl,s,hJ,hG⟩
  repeat(first|refine Zes ?_)
  refine Xg (S:=Nat × σ) (fun x=>[(1,.fn (.func g) cap),(10,Xh l),(11,I l.length),(12,I i),(31,XD r),(32,I r.length),(33,I j),(42,Xak cs),(43,I cs.length),(44,I x.1)]) (fun x G=>x.1≤cs.length∧J x.2∧Has G (L x.2++K)) (fun x=>cs.length - x.1) (0,s)
    (.cons rfl (.cons rfl (.cons rfl (.cons rfl (.cons rfl (.cons rfl (.cons rfl (.cons rfl (.cons rfl (.cons rfl (.nil _))))))))))) ⟨Nat.zero_le _,hJ,hG⟩ ?_
  clear hG hJ ho hh
  rintro ⟨q,s⟩ G ⟨hq,hJ,hG⟩
  dsimp only at hq hJ hG ⊢
  by_cases hql:q < cs.length
  rotate_left
  · repeat(first|refine Zes ?_)
    exact ⟨(j+1,s),by dsimp only;omega,.cons rfl (.cons rfl (.cons rfl (.cons rfl (.cons rfl (.cons rfl (.cons rfl (.nil _))))))),by dsimp only;omega,hJ,hG⟩
  obtain ⟨x,hx⟩:∃ x,cs[q]?=some x:=⟨_,List.getElem?_eq_getElem hql⟩
  have ho:=Xp Xai cs q x hx
  have hbx:=hcs x (List.mem_of_getElem? hx)
  obtain ⟨d3,h3,f3⟩:=x
  obtain ⟨hh,hf⟩:=hbx _ _ _ rfl
  rw [XW] at ho
  clear hcs hbx hx
  repeat(first|refine Zez ?_)
  refine Zj ?_
  refine Zc ?_
  refine Zb ?_
  repeat(first|refine ZcO ?_|refine Zt ?_|(refine Zz ?_;intro G hG)|(refine ZI ?_;intro id G hG))
  refine Za ?_
  refine ZdT ?_
  clear hG
  intro G hG
  repeat(first|refine Zez ?_)
  refine ZcM ?_
  rintro _ G ⟨rfl,s,hJ,hG⟩
  repeat(first|refine Zez ?_)
  refine X5 rfl rfl rfl rfl rfl rfl (by decide) (hf s _ K hJ hG) ?_
  rintro _ G ⟨rfl,s,hJ,hG⟩
  repeat(first|refine Zes ?_|refine ZJ ?_)
  exact ⟨(q+1,s),by dsimp only;omega,.cons rfl (.cons rfl (.cons rfl (.cons rfl (.cons rfl (.cons rfl (.cons rfl (.cons rfl (.cons rfl (.cons rfl (.nil _)))))))))),by dsimp only;omega,hJ,hG⟩
end Go.Proofs.YtlcphjcpoinolaaGreat
