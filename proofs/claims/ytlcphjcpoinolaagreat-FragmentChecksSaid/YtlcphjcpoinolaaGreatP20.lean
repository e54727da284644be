/- Part of the proof: the walk over the program and its laws: Qh. -/
import Derived.Test.YtlcphjcpoinolaaGreatP0
import Derived.Test.YtlcphjcpoinolaaGreatP19
set_option linter.unusedVariables false
namespace Go.Proofs.YtlcphjcpoinolaaGreat
open Go.RowKit Go.Th
set_option maxRecDepth 20000
abbrev XAN (l:List Row):Prop:=∀ (p:Plc) (c:CkId) (s:CkS) (K:List (Nat × Blk)) (G:Xi),CkH c s K G→AC Tryz.prog 182 [.ptr c.ic 0,XD l,.agg (XaA p)] G (fun q G'=>q=I (Xe8 l p s).1∧CkH c (Xe8 l p s).2 K G')
theorem Xh4 (x:Row) (l:List Row) (p:Plc) (s:CkS):Xfx (x::l) p s=if (XjX x p s).1=0 then Xfx l p (XjX x p s).2 else XjX x p s:=by rw [Xfx]
theorem XlX (x:Cell) (l:List Cell) (p:Plc) (s:CkS):XdN (x::l) p s=if (XfR x p s).1=0 then XdN l p (XfR x p s).2 else XfR x p s:=by rw [XdN]
theorem Xre (l:List Row) (p:Plc) (s:CkS):Xe8 l p s=if l.length=0 then (11,s) else if 256 < l.length then (9,s) else Xfx l p s:=by
  cases l with
  | nil=>simp [Xe8]
  | cons x l=>rw [Xe8,Xh4,if_neg (c:=(x::l).length=0) (by simp)]
set_option maxHeartbeats 64000000 in
theorem Xum (l:List Row) (hl:l.length≤1000000) (hb:∀ x ∈ l,∀ h cs,x=.mk h cs→HeadOk h∧cs.length≤1000000∧∀ y ∈ cs,∀ i h f,y=.mk i h f→HeadOk h∧Xiz f):XAN l:=by
  intro p c s K H hc
  obtain ⟨q,hq0⟩:∃ q,Xe8 l p s=q:=⟨_,rfl⟩
  rw [hq0]
  rw [Xre] at hq0
  obtain ⟨es,el,er,eb,eu,ts,tl,tr,tb,tu,hG,a1,a2,a3,a4,a5⟩:=hc
  refine Xv Tryz.func182 rfl rfl rfl ?_
  refine Zc ?_
  refine Zb ?_
  repeat(first|refine Zd ?_|(refine ZH ?_;intro id G hG))
  refine Za ?_
  obtain ⟨b5,hb5⟩:∃ b5,b5=id:=⟨_,rfl⟩
  rw [← hb5] at hG ⊢
  refine Xb8 (Has.swap6 [(b5,⟨XaA p,113,true⟩)] hG) ?_
  clear hG hb5
  intro G hG
  by_cases l0:l.length=0
  · rw [if_pos l0] at hq0
    repeat(first|refine Zes ?_)
    exact ZdY
  rw [if_neg l0] at hq0
  by_cases l1:256 < l.length
  · rw [if_pos l1] at hq0
    repeat(first|refine Zes ?_)
    exact ZdY
  rw [if_neg l1] at hq0
  repeat(first|refine Zes ?_)
  refine Xg (S:=Nat × CkS) (fun x=>[(0,.ptr c.ic 0),(5,.ptr b5 0),(21,XD l),(22,I l.length),(23,I x.1)]) (fun x G=>x.1≤l.length∧Xfx (l.drop x.1) p x.2=q∧CkH c x.2 ((b5,⟨XaA p,113,true⟩)::K) G) (fun x=>l.length - x.1) (0,s)
    (.cons rfl (.cons rfl (.cons rfl (.cons rfl (.cons rfl (.nil _)))))) ⟨Nat.zero_le _,hq0,⟨es,el,er,eb,eu,ts,tl,tr,tb,tu,hG,a1,a2,a3,a4,a5⟩⟩ ?_
  clear hG hq0 a1 a2 a3 a4 a5
  rintro ⟨i,s⟩ G ⟨hi,hf,hc⟩
  dsimp only at hi hf hc ⊢
  by_cases hil:i < l.length
  rotate_left
  · rw [List.drop_eq_nil_of_le (by omega),Xfx] at hf
    obtain ⟨es,el,er,eb,eu,ts,tl,tr,tb,tu,hG,a1,a2,a3,a4,a5⟩:=hc
    repeat(first|refine Zes ?_)
    exact XC rfl rfl ⟨by rw [← hf];rfl,by rw [← hf];exact CkH.cut [(b5,⟨XaA p,113,true⟩)] ⟨es,el,er,eb,eu,ts,tl,tr,tb,tu,hG,a1,a2,a3,a4,a5⟩⟩
  obtain ⟨x,hx⟩:∃ x,l[i]?=some x:=⟨_,List.getElem?_eq_getElem hil⟩
  have ho:=Xp Xaq l i x hx
  have hbx:=hb x (List.mem_of_getElem? hx)
  rw [X2 hx,Xh4] at hf
  clear hb
  obtain ⟨h,cs⟩:=x
  obtain ⟨hh1,hcl,hcs⟩:=hbx h cs rfl
  clear hbx
  rw [X0] at ho
  obtain ⟨r,hr0⟩:∃ r,XjX (.mk h cs) p s=r:=⟨_,rfl⟩
  rw [hr0] at hf
  rw [XjX] at hr0
  obtain ⟨es,el,er,eb,eu,ts,tl,tr,tb,tu,hG,a1,a2,a3,a4,a5⟩:=hc
  repeat(first|refine Zes ?_|refine ZcL ?_|(refine Zz ?_;intro G hG)|(refine ZI ?_;intro id G hG))
  obtain ⟨b8,hb8⟩:∃ b8,b8=id:=⟨_,rfl⟩
  rw [← hb8] at hG ⊢
  refine Xb8 (Has.swap6 [(b8,⟨[Xf h.props,I h.ins,I h.move,Xm h.dels,Xl h.lyrs,Xak cs],94,true⟩)] hG) ?_
  clear hG hb8
  intro G hG
  have hc:CkH c s ((b8,⟨[Xf h.props,I h.ins,I h.move,Xm h.dels,Xl h.lyrs,Xak cs],94,true⟩)::(b5,⟨XaA p,113,true⟩)::K) G:=⟨es,el,er,eb,eu,ts,tl,tr,tb,tu,hG,a1,a2,a3,a4,a5⟩
  have hHd:=Xjn (.refl s) hc (fun K G hc=>Xi1 c s K G hc 9 h hh1)
  rw [Xmk hc] at hHd
  have hW1:=Xbe (decide ((cs.length:Int)=0)) 11
  have hW2:=Xbe (decide ((32:Int) < cs.length)) 9
  generalize XcO s 9 h=v1 at hHd hr0
  obtain ⟨v2,hv2⟩:∃ v,XbO (decide ((cs.length:Int)=0)) 11=v:=⟨_,rfl⟩
  obtain ⟨v3,hv3⟩:∃ v,XbO (decide ((32:Int) < cs.length)) 9=v:=⟨_,rfl⟩
  rw [hv2] at hW1 hr0
  rw [hv3] at hW2 hr0
  have hI:=Xa8 [v1,v2,v3] (by simp)
  have tI:∀ c ∈ [XcS [v1,v2,v3]],Xk c:=TreeL.cons (XY _) TreeL.nil
  have tW:∀ (b:Bool) (e:Int),∀ c ∈ [B b,I e],Xk c:=fun b e=>TreeL.cons (Xk.v _) (TreeL.cons (Xk.v _) TreeL.nil)
  obtain ⟨H1,e1⟩:∃ X,X=G++[some (Blk.mk [I v1,I v2,I v3] 29 true)]:=⟨_,rfl⟩
  have hG1:=hG.new (Blk.mk [I v1,I v2,I v3] 29 true)
  rw [← e1] at hG1
  refine Zaa ?_
  repeat(first|refine Y_r 0 (by decide +kernel) (by decide +kernel) rfl rfl rfl rfl (by decide) (Xj rfl rfl (hG.get 6 _ _ rfl) rfl) ?_|refine XA3 0 (by decide +kernel) (by decide +kernel) rfl rfl rfl rfl (by decide) (AC.K rfl rfl rfl rfl hHd) ?_|refine Y_k rfl rfl rfl (by decide) (fun _=>Iso.K rfl rfl rfl rfl hW1 (tW _ _)) ?_|refine Y_k rfl rfl rfl (by decide) (fun _=>Iso.K rfl rfl rfl rfl hW2 (tW _ _)) ?_|refine ZcF ?_|refine Zay ?_|refine Zex ?_|refine ZbA ?_)
  have hG:=hG1.tail
  clear hG1 e1 hHd hW1 hW2 hI tI hc
  generalize XaG [v1,v2,v3]=e at hr0 ⊢
  by_cases e0:e=0
  rotate_left
  · rw [if_neg e0] at hr0
    rw [← hr0,if_neg e0] at hf
    repeat(first|refine Zes ?_)
    exact XC rfl rfl ⟨by rw [← hf];rfl,by rw [← hf];exact CkH.cut [(b8,⟨[Xf h.props,I h.ins,I h.move,Xm h.dels,Xl h.lyrs,Xak cs],94,true⟩),(b5,⟨XaA p,113,true⟩)] ⟨es,el,er,eb,eu,ts,tl,tr,tb,tu,hG,a1,a2,a3,a4,a5⟩⟩
  rw [if_pos e0] at hr0
  repeat(first|refine Zes ?_|refine ZR ?_)
  refine Xg (S:=Nat × CkS) (fun x=>[(0,.ptr c.ic 0),(5,.ptr b5 0),(8,.ptr b8 0),(21,XD l),(22,I l.length),(23,I i),(47,Xak cs),(48,I cs.length),(49,I x.1)]) (fun x G=>x.1≤cs.length∧XdN (cs.drop x.1) p x.2=r∧CkH c x.2 ((b8,⟨[Xf h.props,I h.ins,I h.move,Xm h.dels,Xl h.lyrs,Xak cs],94,true⟩)::(b5,⟨XaA p,113,true⟩)::K) G) (fun x=>cs.length - x.1) (0,s)
    (.cons rfl (.cons rfl (.cons rfl (.cons rfl (.cons rfl (.cons rfl (.cons rfl (.cons rfl (.cons rfl (.nil _)))))))))) ⟨Nat.zero_le _,hr0,⟨es,el,er,eb,eu,ts,tl,tr,tb,tu,hG,a1,a2,a3,a4,a5⟩⟩ ?_
  clear hG hr0 a1 a2 a3 a4 a5 hv2 hv3
  rintro ⟨j,s⟩ G ⟨hj,hr0,hc⟩
  dsimp only at hj hr0 hc ⊢
  by_cases hjl:j < cs.length
  rotate_left
  · rw [List.drop_eq_nil_of_le (by omega),XdN] at hr0
    rw [← hr0,if_pos rfl] at hf
    obtain ⟨es,el,er,eb,eu,ts,tl,tr,tb,tu,hG,a1,a2,a3,a4,a5⟩:=hc
    repeat(first|refine Zes ?_)
    exact ⟨(i+1,s),by dsimp only;omega,.cons rfl (.cons rfl (.cons rfl (.cons rfl (.cons rfl (.nil _))))),by dsimp only;omega,hf,CkH.cut (K:=(b5,⟨XaA p,113,true⟩)::K) [(b8,⟨[Xf h.props,I h.ins,I h.move,Xm h.dels,Xl h.lyrs,Xak cs],94,true⟩)] ⟨es,el,er,eb,eu,ts,tl,tr,tb,tu,hG,a1,a2,a3,a4,a5⟩⟩
  obtain ⟨y,hy⟩:∃ y,cs[j]?=some y:=⟨_,List.getElem?_eq_getElem hjl⟩
  have oy:=Xp Xai cs j y hy
  have hcy:=hcs y (List.mem_of_getElem? hy)
  rw [X2 hy,XlX] at hr0
  obtain ⟨ii,hh,ff⟩:=y
  obtain ⟨hhd,hfl⟩:=hcy ii hh ff rfl
  clear hcy
  rw [XW] at oy
  obtain ⟨u,hu0⟩:∃ u,XfR (.mk ii hh ff) p s=u:=⟨_,rfl⟩
  rw [hu0] at hr0
  rw [XfR] at hu0
  obtain ⟨es,el,er,eb,eu,ts,tl,tr,tb,tu,hG,a1,a2,a3,a4,a5⟩:=hc
  repeat(first|refine Zes ?_|refine Xn rfl rfl (by decide) (Xc (cells:=cs.flatMap XA) rfl rfl rfl (by omega) (by exact oy)) ?_|(refine Zz ?_;intro G hG)|(refine ZI ?_;intro id G hG))
  obtain ⟨b11,hb11⟩:∃ b11,b11=id:=⟨_,rfl⟩
  rw [← hb11] at hG ⊢
  have hG:=Has.swap6 [(b11,⟨[I ii,Xf hh.props,I hh.ins,I hh.move,Xm hh.dels,Xl hh.lyrs,Xh ff],96,true⟩)] hG
  refine X5 rfl rfl rfl rfl rfl rfl (by decide) (Xvk c s _ _ ⟨es,el,er,eb,eu,ts,tl,tr,tb,tu,hG,a1,a2,a3,a4,a5⟩ ii) ?_
  rintro _ G ⟨rfl,hq⟩
  by_cases i0:idF s ii=0
  rotate_left
  · rw [if_neg i0] at hu0
    rw [← hu0] at hr0;dsimp only at hr0;rw [if_neg i0] at hr0
    rw [← hr0] at hf;dsimp only at hf;rw [if_neg i0] at hf
    have hG:=Has.nil G
    repeat(first|refine Zes ?_)
    exact ZcS
  rw [if_pos i0] at hu0
  generalize idS s ii=s1 at hq hu0
  obtain ⟨es,el,er,eb,eu,ts,tl,tr,tb,tu,hG,a1,a2,a3,a4,a5⟩:=hq
  repeat(first|refine Zes ?_|refine ZR ?_)
  refine X5 rfl rfl rfl rfl rfl rfl (by decide) (Xi1 c s1 _ _ ⟨es,el,er,eb,eu,ts,tl,tr,tb,tu,hG,a1,a2,a3,a4,a5⟩ 10 hh hhd) ?_
  rintro _ G ⟨rfl,hq⟩
  by_cases h0:XcO s1 10 hh=0
  rotate_left
  · rw [if_neg h0] at hu0
    rw [← hu0] at hr0;dsimp only at hr0;rw [if_neg h0] at hr0
    rw [← hr0] at hf;dsimp only at hf;rw [if_neg h0] at hf
    have hG:=Has.nil G
    repeat(first|refine Zes ?_)
    exact ZcS
  rw [if_pos h0] at hu0
  obtain ⟨es,el,er,eb,eu,ts,tl,tr,tb,tu,hG,a1,a2,a3,a4,a5⟩:=hq
  repeat(first|refine Zes ?_|refine ZR ?_|refine ZcH ?_)
  refine X5 rfl rfl rfl rfl rfl rfl (by decide) (hfl p c s1 _ _ ⟨es,el,er,eb,eu,ts,tl,tr,tb,tu,hG,a1,a2,a3,a4,a5⟩) ?_
  rintro _ G ⟨rfl,hq⟩
  rw [hu0] at hq ⊢
  have hG:=Has.nil G
  by_cases u0:u.1=0
  rotate_left
  · rw [if_neg u0] at hr0
    rw [← hr0,if_neg u0] at hf
    repeat(first|refine Zes ?_)
    exact ZcS
  rw [if_pos u0] at hr0
  repeat(first|refine Zes ?_)
  exact ⟨(j+1,u.2),by dsimp only;omega,.cons rfl (.cons rfl (.cons rfl (.cons rfl (.cons rfl (.cons rfl (.cons rfl (.cons rfl (.cons rfl (.nil _))))))))),by dsimp only;omega,hr0,CkH.cut (K:=(b8,⟨[Xf h.props,I h.ins,I h.move,Xm h.dels,Xl h.lyrs,Xak cs],94,true⟩)::(b5,⟨XaA p,113,true⟩)::K) [(b11,⟨[I ii,Xf hh.props,I hh.ins,I hh.move,Xm hh.dels,Xl hh.lyrs,Xh ff],96,true⟩)] hq⟩
end Go.Proofs.YtlcphjcpoinolaaGreat
