/- Part of the proof: the walk over the program and its laws: Ut Pl Bu. -/
import Derived.Test.YtlcphjcpoinolaaGreatP0
import Derived.Test.YtlcphjcpoinolaaGreatP23
import Derived.Test.YtlcphjcpoinolaaGreatP15
import Derived.Test.YtlcphjcpoinolaaGreatP11
set_option linter.unusedVariables false
namespace Go.Th
open Go.RowKit
theorem Has.behind {H:Xh} {A L:List (Nat × Blk)} (h:Has H (A++L)):Has H L:=by
  obtain ⟨h1,h2⟩:=Xdd.1 h
  exact Xdd.2 ⟨fun x hx=>h1 x (List.mem_append_right A hx),(List.pairwise_append.1 h2).2.1⟩
theorem Has.swapL {H:Xh} {A B K:List (Nat × Blk)} (h:Has H (A++(B++K))):Has H (B++(A++K)):=h.perm (List.perm_append_comm_assoc A B K)
theorem Has.midcut {H:Xh} {A B K:List (Nat × Blk)} (h:Has H (A++(B++K))):Has H (A++K):=h.swapL.behind
end Go.Th
namespace Go.Proofs.YtlcphjcpoinolaaGreat
open Go.RowKit Go.Th
set_option maxRecDepth 20000
section
variable {σ:Type} (J:σ→Prop) (L:σ→List (Nat × Blk)) (g:FuncId) (cap:List PV)
abbrev Xli (l:List Item):Prop:=∀ (s:σ) (G:Xh) (K:List (Nat × Blk)),J s→Has G (L s++K)→AC Tryz.prog 121 [Xk l,.fn (.func g) cap] G (fun p G'=>p=.tup []∧∃ s',J s'∧Has G' (L s'++K))
abbrev XoL (h:Head):Prop:=∀ (s:σ) (G:Xh) (K:List (Nat × Blk)),J s→Has G (L s++K)→AC Tryz.prog g ([.agg (XN h)]++cap) G (fun p G'=>p=.tup []∧∃ s',J s'∧Has G' (L s'++K))
structure RowC (x:Row):Prop where
  h:∀ h cs,x=.mk h cs→XoL J L g cap h∧cs.length≤1000000∧∀ y ∈ cs,∀ i h f,y=.mk i h f→XoL J L g cap h∧Xli J L g cap f
structure ItmC (x:Item):Prop where
  h:∀ k c i t h f r,x=.mk k c i t h f r→XoL J L g cap h∧Xli J L g cap f∧r.length≤1000000∧∀ y ∈ r,RowC J L g cap y
end
set_option maxHeartbeats 64000000 in
theorem Xjb {σ:Type} (J:σ→Prop) (L:σ→List (Nat × Blk)) (g:FuncId) (cap:List PV) (l:List Item) (hl:l.length≤1000000) (hb:∀ x ∈ l,ItmC J L g cap x):Xli J L g cap l:=by
  intro s G K hJ hG
  refine Xw Tryz.func121 rfl rfl rfl ?_
  repeat(first|refine Zd1 ?_)
  refine Xg (S:=Nat × σ) (fun x=>[(1,.fn (.func g) cap),(10,Xk l),(11,I l.length),(12,I x.1)]) (fun x G=>x.1≤l.length∧J x.2∧Has G (L x.2++K)) (fun x=>l.length - x.1) (0,s)
    (.cons rfl (.cons rfl (.cons rfl (.cons rfl (.nil _))))) ⟨Nat.zero_le _,hJ,hG⟩ ?_
  clear hG hJ
  rintro ⟨i,s⟩ G ⟨hi,hJ,hG⟩
  dsimp only at hi hJ hG ⊢
  by_cases hil:i < l.length
  rotate_left
  · repeat(first|refine Zd1 ?_|refine ZaC ?_|refine ZaD ?_)
    exact XcO rfl (.inl rfl) ⟨rfl,s,hJ,hG⟩
  obtain ⟨x,hx⟩:∃ x,l[i]?=some x:=⟨_,List.getElem?_eq_getElem hil⟩
  have ho:=Xu XU l i x hx
  obtain ⟨hbx⟩:=hb x (List.mem_of_getElem? hx)
  obtain ⟨k,c,d,t,h,f,r⟩:=x
  obtain ⟨hh,hf,hrl,hr⟩:=hbx _ _ _ _ _ _ _ rfl
  rw [XK] at ho
  clear hb hbx hx
  repeat(first|refine Zd7 ?_)
  refine Zh ?_
  refine Zc ?_
  refine Zb ?_
  repeat(first|refine ZbU ?_|refine Zu ?_|(refine ZA ?_;intro G hG)|(refine ZD ?_;intro id G hG))
  refine Za ?_
  refine Zdu ?_
  clear hG
  intro G hG
  repeat(first|refine Zd7 ?_)
  refine ZcC ?_
  rintro _ G ⟨rfl,s,hJ,hG⟩
  by_cases k6:k=6
  · repeat(first|refine Zd1 ?_)
    refine X0 rfl rfl rfl rfl rfl rfl (by decide) (hf s _ K hJ hG) ?_
    rintro _ G ⟨rfl,s,hJ,hG⟩
    repeat(first|refine Zd1 ?_|refine ZJ ?_)
    exact ZcD
  by_cases k7:k=7
  rotate_left
  · repeat(first|refine Zd1 ?_)
    exact ZcD
  subst k7
  clear hf hh
  repeat(first|refine Zd1 ?_)
  refine Xg (S:=Nat × σ) (fun x=>[(1,.fn (.func g) cap),(10,Xk l),(11,I l.length),(12,I i),(31,X7 r),(32,I r.length),(33,I x.1)]) (fun x G=>x.1≤r.length∧J x.2∧Has G (L x.2++K)) (fun x=>r.length - x.1) (0,s)
    (.cons rfl (.cons rfl (.cons rfl (.cons rfl (.cons rfl (.cons rfl (.cons rfl (.nil _)))))))) ⟨Nat.zero_le _,hJ,hG⟩ ?_
  clear hG hJ ho
  rintro ⟨j,s⟩ G ⟨hj,hJ,hG⟩
  dsimp only at hj hJ hG ⊢
  by_cases hjl:j < r.length
  rotate_left
  · repeat(first|refine Zd1 ?_)
    exact ZcD
  obtain ⟨x,hx⟩:∃ x,r[j]?=some x:=⟨_,List.getElem?_eq_getElem hjl⟩
  have ho:=Xu XaX r j x hx
  obtain ⟨hbx⟩:=hr x (List.mem_of_getElem? hx)
  obtain ⟨h2,cs⟩:=x
  obtain ⟨hh,hcl,hcs⟩:=hbx _ _ rfl
  rw [X2] at ho
  clear hr hbx hx
  repeat(first|refine Zd7 ?_)
  refine Zh ?_
  refine Zc ?_
  refine Zb ?_
  repeat(first|refine Zcz ?_|refine Zu ?_|(refine ZA ?_;intro G hG)|(refine ZD ?_;intro id G hG))
  refine Za ?_
  refine Zdx ?_
  clear hG
  intro G hG
  repeat(first|refine Zd7 ?_)
  refine ZcC ?_
  rintro _ G ⟨rfl,s,hJ,hG⟩
  repeat(first|refine Zd1 ?_)
  refine Xg (S:=Nat × σ) (fun x=>[(1,.fn (.func g) cap),(10,Xk l),(11,I l.length),(12,I i),(31,X7 r),(32,I r.length),(33,I j),(42,Xau cs),(43,I cs.length),(44,I x.1)]) (fun x G=>x.1≤cs.length∧J x.2∧Has G (L x.2++K)) (fun x=>cs.length - x.1) (0,s)
    (.cons rfl (.cons rfl (.cons rfl (.cons rfl (.cons rfl (.cons rfl (.cons rfl (.cons rfl (.cons rfl (.cons rfl (.nil _))))))))))) ⟨Nat.zero_le _,hJ,hG⟩ ?_
  clear hG hJ ho hh
  rintro ⟨q,s⟩ G ⟨hq,hJ,hG⟩
  dsimp only at hq hJ hG ⊢
  by_cases hql:q < cs.length
  rotate_left
  · repeat(first|refine Zd1 ?_)
    exact ⟨(j+1,s),by dsimp only;omega,.cons rfl (.cons rfl (.cons rfl (.cons rfl (.cons rfl (.cons rfl (.cons rfl (.nil _))))))),by dsimp only;omega,hJ,hG⟩
  obtain ⟨x,hx⟩:∃ x,cs[q]?=some x:=⟨_,List.getElem?_eq_getElem hql⟩
  have ho:=Xu XaP cs q x hx
  have hbx:=hcs x (List.mem_of_getElem? hx)
  obtain ⟨d3,h3,f3⟩:=x
  obtain ⟨hh,hf⟩:=hbx _ _ _ rfl
  rw [XZ] at ho
  clear hcs hbx hx
  repeat(first|refine Zd7 ?_)
  refine Zh ?_
  refine Zc ?_
  refine Zb ?_
  repeat(first|refine ZcA ?_|refine Zu ?_|(refine ZA ?_;intro G hG)|(refine ZD ?_;intro id G hG))
  refine Za ?_
  refine Zdy ?_
  clear hG
  intro G hG
  repeat(first|refine Zd7 ?_)
  refine ZcC ?_
  rintro _ G ⟨rfl,s,hJ,hG⟩
  repeat(first|refine Zd7 ?_)
  refine X0 rfl rfl rfl rfl rfl rfl (by decide) (hf s _ K hJ hG) ?_
  rintro _ G ⟨rfl,s,hJ,hG⟩
  repeat(first|refine Zd1 ?_|refine ZJ ?_)
  exact ⟨(q+1,s),by dsimp only;omega,.cons rfl (.cons rfl (.cons rfl (.cons rfl (.cons rfl (.cons rfl (.cons rfl (.cons rfl (.cons rfl (.cons rfl (.nil _)))))))))),by dsimp only;omega,hJ,hG⟩
end Go.Proofs.YtlcphjcpoinolaaGreat
namespace Go.Proofs.YtlcphjcpoinolaaGreat
open Go.RowKit Go.Th
set_option maxRecDepth 20000
end Go.Proofs.YtlcphjcpoinolaaGreat
