/- Part of the proof: the walk over the program and its laws: Qg Qh. -/
import Derived.Test.YtlcphjcpoinolaaGreatP0
import Derived.Test.YtlcphjcpoinolaaGreatP28
import Derived.Test.YtlcphjcpoinolaaGreatP36
set_option linter.unusedVariables false
namespace Go.Proofs.YtlcphjcpoinolaaGreat
open Go.RowKit Go.Th
set_option maxRecDepth 20000
structure Plc where
  body:Bool
  note:Bool
  tables:Int
def Xax (p:Plc):List PV:=[B p.body,B p.note,I p.tables]
def XeN (s:CkS) (n:Int):CkS:={ s with units:=IntKind.i64.wrap (s.units+n) }
def XdD (k i:Int) (t:ByteArray) (p:Plc) (s:CkS):Int × CkS :=
  if k=1 then (0,XeN s (IntKind.i64.wrap ((if XaZ t=true then (Xcu t:Int) else 0) - 1))) else if k=3 then (if p.body=true then (0,s) else (19,s)) else
  if k=6 then (if p.note=true then (19,s) else (idF s i,idS s i)) else if k=7 then (if 4≤p.tables then (17,s) else (idF s i,idS s i)) else
  if k=8 then (if inF i 1 1073741824=true then (0,s) else (18,s)) else (0,s)
mutual
def XbO:Item→Plc→CkS→Int × CkS
  | .mk k code i t h f r,p,s =>
    if Xbh k code i t f.length r.length=0 then
      (if (XdD k i t p (XeN s 1)).1=0 then
        (if Xcb (XdD k i t p (XeN s 1)).2 k h=0 then
          (if k=6 then Xa6 f ⟨false,true,p.tables⟩ (XdD k i t p (XeN s 1)).2 else if k=7 then
            Xfo r ⟨false,p.note,IntKind.i64.wrap (p.tables+1)⟩ (XdD k i t p (XeN s 1)).2
          else (0,(XdD k i t p (XeN s 1)).2))
        else (Xcb (XdD k i t p (XeN s 1)).2 k h,(XdD k i t p (XeN s 1)).2))
      else XdD k i t p (XeN s 1))
    else (Xbh k code i t f.length r.length,s)
def Xfo:List Row→Plc→CkS→Int × CkS
  | [],_,s=>(11,s)
  | x::l,p,s=>if 256 < (x::l).length then (9,s) else if (Xkd x p s).1=0 then XfP l p (Xkd x p s).2 else Xkd x p s
def Xa6:List Item→Plc→CkS→Int × CkS
  | [],_,s=>(0,s)
  | x::l,p,s=>if (XbO x p s).1=0 then Xa6 l p (XbO x p s).2 else XbO x p s
def Xkd:Row→Plc→CkS→Int × CkS
  | .mk h cs,p,s=>if XaA [Xcb s 9 h,Xbv (decide ((cs.length:Int)=0)) 11,Xbv (decide ((32:Int) < cs.length)) 9]=0 then XdZ cs p s else (XaA [Xcb s 9 h,Xbv (decide ((cs.length:Int)=0)) 11,Xbv (decide ((32:Int) < cs.length)) 9],s)
def XfP:List Row→Plc→CkS→Int × CkS
  | [],_,s=>(0,s)
  | x::l,p,s=>if (Xkd x p s).1=0 then XfP l p (Xkd x p s).2 else Xkd x p s
def Xga:Cell→Plc→CkS→Int × CkS
  | .mk i h f,p,s=>if idF s i=0 then (if Xcb (idS s i) 10 h=0 then Xa6 f p (idS s i) else (Xcb (idS s i) 10 h,idS s i)) else (idF s i,idS s i)
def XdZ:List Cell→Plc→CkS→Int × CkS
  | [],_,s=>(0,s)
  | x::l,p,s=>if (Xga x p s).1=0 then XdZ l p (Xga x p s).2 else Xga x p s
end
def XqG (s:CkS):Prop:=∀ k,(Xdr s.e.eb k).getD (B false)=B (s.before k)
def Xcp (s s':CkS):Prop:=XeT s s'∧(XqG s→XqG s')
theorem Xcp.refl (s:CkS):Xcp s s:=⟨.refl s,fun h=>h⟩
theorem Xcp.trans {s t u:CkS} (h:Xcp s t) (k:Xcp t u):Xcp s u:=⟨h.1.trans k.1,fun g=>k.2 (h.2 g)⟩
theorem XhJ (s:CkS) (n:Int):Xcp s (XeN s n):=⟨⟨rfl,rfl,rfl,rfl,rfl⟩,fun h=>h⟩
theorem Xja (s:CkS) (i:Int):Xcp s (idS s i):=by
  unfold idS
  split
  · refine ⟨⟨rfl,rfl,rfl,rfl,rfl⟩,fun h k=>?_⟩
    show (Xdr (Xgt s.e.eb s.e.tb i (B true)) k).getD (B false)=B (if k=i then true else s.before k)
    rw [Xft]
    by_cases e:k=i
    · rw [if_pos e,if_pos e];rfl
    · rw [if_neg e,if_neg e];exact h k
  · exact .refl s
theorem Xkh (k i:Int) (t:ByteArray) (p:Plc) (s:CkS):Xcp s (XdD k i t p s).2:=by
  unfold XdD
  repeat' split
  all_goals first | exact .refl s | exact XhJ s _ | exact Xja s i
mutual
theorem XfX:∀ (x:Item) (p:Plc) (s:CkS),Xcp s (XbO x p s).2
  | .mk k code i t h f r,p,s=>by
    have h1:=(XhJ s 1).trans (Xkh k i t p (XeN s 1))
    rw [XbO]
    repeat' split
    all_goals first | exact .refl s | exact h1 | exact h1.trans (Xe5 f _ _) | exact h1.trans (Xn0 r _ _)
theorem Xn0:∀ (l:List Row) (p:Plc) (s:CkS),Xcp s (Xfo l p s).2
  | [],_,s=>by rw [Xfo];exact .refl s
  | x::l,p,s=>by
    have h1:=Xfp x p s
    rw [Xfo]
    split
    · exact .refl s
    split
    · exact h1.trans (Xid l p _)
    · exact h1
theorem Xe5:∀ (l:List Item) (p:Plc) (s:CkS),Xcp s (Xa6 l p s).2
  | [],_,s=>by rw [Xa6];exact .refl s
  | x::l,p,s=>by
    have h1:=XfX x p s
    rw [Xa6]
    split
    · exact h1.trans (Xe5 l p _)
    · exact h1
theorem Xfp:∀ (x:Row) (p:Plc) (s:CkS),Xcp s (Xkd x p s).2
  | .mk h cs,p,s=>by
    rw [Xkd]
    split
    · exact XhE cs p s
    · exact .refl s
theorem Xid:∀ (l:List Row) (p:Plc) (s:CkS),Xcp s (XfP l p s).2
  | [],_,s=>by rw [XfP];exact .refl s
  | x::l,p,s=>by
    have h1:=Xfp x p s
    rw [XfP]
    split
    · exact h1.trans (Xid l p _)
    · exact h1
theorem XiB:∀ (x:Cell) (p:Plc) (s:CkS),Xcp s (Xga x p s).2
  | .mk i h f,p,s=>by
    have h1:=Xja s i
    rw [Xga]
    repeat' split
    all_goals first | exact h1 | exact h1.trans (Xe5 f p _)
theorem XhE:∀ (l:List Cell) (p:Plc) (s:CkS),Xcp s (XdZ l p s).2
  | [],_,s=>by rw [XdZ];exact .refl s
  | x::l,p,s=>by
    have h1:=XiB x p s
    rw [XdZ]
    split
    · exact h1.trans (XhE l p _)
    · exact h1
end
theorem CkH.good {c:CkId} {s:CkS} {K:List (Nat × Blk)} {H:Xh} (h:CkH c s K H):XqG s:=by
  obtain ⟨es,el,er,eb,eu,ts,tl,tr,tb,tu,hG,a1,a2,a3,a4,a5,ae⟩:=h
  intro k
  rw [ae];exact a4 k
abbrev Xq1 (x:Item):Prop:=∀ (p:Plc) (c:CkId) (s:CkS) (K:List (Nat × Blk)) (G:Xh),CkH c s K G→AC Tryz.prog 119 [.ptr c.ic 0,.agg (Xl x),.agg (Xax p)] G (fun q G'=>q=I (XbO x p s).1∧CkH c (XbO x p s).2 K G')
abbrev XiF (l:List Item):Prop:=∀ (p:Plc) (c:CkId) (s:CkS) (K:List (Nat × Blk)) (G:Xh),CkH c s K G→AC Tryz.prog 51 [.ptr c.ic 0,Xk l,.agg (Xax p)] G (fun q G'=>q=I (Xa6 l p s).1∧CkH c (Xa6 l p s).2 K G')
set_option maxHeartbeats 8000000 in
theorem XpW (l:List Item) (p:Plc) (c:CkId) (s:CkS) (K:List (Nat × Blk)) (b3 b4 b5:Nat) (i:Nat) (x:Item) (hx:l[i]?=some x) (hl:l.length≤1000000) (hI:Xq1 x) (G:Xh)
    (hc:CkH c s ((b5,⟨Xax p,113,true⟩)::(b4,⟨[Xk l],22,true⟩)::(b3,⟨[.ptr c.ic 0],107,true⟩)::K) G) :
    AC Tryz.prog 118 [I i,.ptr b3 0,.ptr b4 0,.ptr b5 0] G (fun q G'=>q=I (XbO x p s).1∧CkH c (XbO x p s).2 ((b5,⟨Xax p,113,true⟩)::(b4,⟨[Xk l],22,true⟩)::(b3,⟨[.ptr c.ic 0],107,true⟩)::K) G'):=by
  have hst:=XfX x p s
  have hE:=XjD hst.1 hc (hI p c s)
  have hU:=Xxq hst.1 (hst.2 hc.good) hc
  have hlt:=(List.getElem?_eq_some_iff.1 hx).1
  have ho:=Xu XU l i x hx
  generalize (XbO x p s).1=v at hE ⊢
  generalize XtJ c (XbO x p s).2 G=G2 at hE hU ⊢
  generalize (XbO x p s).2=s2 at hU ⊢
  clear hst hI
  obtain ⟨k,code,j,t,h,f,r⟩:=x
  obtain ⟨es,el,er,eb,eu,ts,tl,tr,tb,tu,hG,a1,a2,a3,a4,a5⟩:=hc
  refine Xw Tryz.func118 rfl rfl rfl ?_
  refine Zc ?_
  refine Zb ?_
  repeat(first|refine Zd ?_)
  refine Za ?_
  refine Zc ?_
  refine XjU [6] [G2] G2 mixed (by decide +kernel) (N:=1) (by decide +kernel) rfl ?_
  repeat(first|refine Xxc 0 rfl (by decide +kernel) (by decide +kernel) rfl rfl rfl rfl (by decide) (Xm rfl rfl (hG.get 6 _ _ rfl) rfl) ?_|refine Xxc 0 rfl (by decide +kernel) (by decide +kernel) rfl rfl rfl rfl (by decide) (Xm rfl rfl (hG.get 7 _ _ rfl) rfl) ?_|refine Xxc 0 rfl (by decide +kernel) (by decide +kernel) rfl rfl rfl rfl (by decide) (Xm rfl rfl (hG.get 8 _ _ rfl) rfl) ?_|refine F_v rfl rfl rfl rfl (by decide) (fun _=>Xf (cells:=l.flatMap Xl) rfl rfl rfl (by omega) (by exact ho)) ?_|refine F_c 0 rfl (by decide +kernel) rfl rfl rfl rfl (by decide) (AC.K rfl rfl rfl rfl hE) rfl ?_|refine Zd8 ?_|refine F_v rfl rfl rfl rfl (by decide) (fun _=>XaS rfl rfl rfl) ?_)
  have hG:=Has.nil G2
  repeat(first|refine Zf ?_)
  exact XG rfl rfl ⟨rfl,hU⟩
def Xin (l:List Item) (p:Plc) (i:Nat) (s:CkS):Int × CkS:=match l[i]? with
  | some x=>XbO x p s
  | none=>(0,s)
theorem XiD (l:List Item) (p:Plc):∀ (n i:Nat) (s:CkS),n+i=l.length→XoN (Xin l p) n i s=Xa6 (l.drop i) p s
  | 0,i,s,h=>by rw [XoN,List.drop_eq_nil_of_le (by omega),Xa6]
  | n+1,i,s,h=>by
    obtain ⟨x,hx⟩:∃ x,l[i]?=some x:=⟨_,List.getElem?_eq_getElem (by omega)⟩
    have e:Xin l p i s=XbO x p s:=by unfold Xin;rw [hx]
    rw [XoN,Xak hx,Xa6,e]
    split
    · exact XiD l p n (i+1) _ (by omega)
    · rfl
set_option maxHeartbeats 8000000 in
theorem Xi7 (l:List Item) (hl:l.length≤1000000) (hI:∀ x ∈ l,Xq1 x):XiF l:=by
  intro p c s K H hc
  obtain ⟨es,el,er,eb,eu,ts,tl,tr,tb,tu,hG,a1,a2,a3,a4,a5⟩:=hc
  refine Xw Tryz.func51 rfl rfl rfl ?_
  refine Zc ?_
  refine Zb ?_
  repeat(first|refine Zd ?_|(refine ZI ?_;intro id G hG))
  refine Za ?_
  rename_i b3 _ _ b4 _ _
  obtain ⟨b5,hb5⟩:∃ b5,b5=id:=⟨_,rfl⟩
  rw [← hb5] at hG ⊢
  refine Xb7 (Has.swap6 [(b5,⟨Xax p,113,true⟩),(b4,⟨[Xk l],22,true⟩),(b3,⟨[.ptr c.ic 0],107,true⟩)] hG) ?_
  clear hG hb5
  intro G hG
  have hA:=fun G (hg:CkH c s ((b5,⟨Xax p,113,true⟩)::(b4,⟨[Xk l],22,true⟩)::(b3,⟨[.ptr c.ic 0],107,true⟩)::K) G) =>
    Xtx (σ:=CkS) (fun s G=>CkH c s ((b5,⟨Xax p,113,true⟩)::(b4,⟨[Xk l],22,true⟩)::(b3,⟨[.ptr c.ic 0],107,true⟩)::K) G) (Xin l p) l.length hl 118 [.ptr b3 0,.ptr b4 0,.ptr b5 0]
      (fun i s G hi hp=>by
        obtain ⟨x,hx⟩:∃ x,l[i]?=some x:=⟨_,List.getElem?_eq_getElem hi⟩
        have e:Xin l p i s=XbO x p s:=by unfold Xin;rw [hx]
        rw [e]
        exact XpW l p c s K b3 b4 b5 i x hx hl (hI x (List.mem_of_getElem? hx)) G hp) s G hg
  rw [XiD l p l.length 0 s (by omega),List.drop_zero] at hA
  repeat(first|refine Zd1 ?_|refine Zaq ?_|(refine Zds ?_;rintro _ G ⟨rfl,hq⟩)|refine ZaH ?_)
  exact XG rfl rfl ⟨rfl,hq.cut [(b5,⟨Xax p,113,true⟩),(b4,⟨[Xk l],22,true⟩),(b3,⟨[.ptr c.ic 0],107,true⟩)]⟩
end Go.Proofs.YtlcphjcpoinolaaGreat
namespace Go.Proofs.YtlcphjcpoinolaaGreat
open Go.RowKit Go.Th
set_option maxRecDepth 20000
abbrev XAN (l:List Row):Prop:=∀ (p:Plc) (c:CkId) (s:CkS) (K:List (Nat × Blk)) (G:Xh),CkH c s K G→AC Tryz.prog 182 [.ptr c.ic 0,X7 l,.agg (Xax p)] G (fun q G'=>q=I (Xfo l p s).1∧CkH c (Xfo l p s).2 K G')
theorem Xif (x:Row) (l:List Row) (p:Plc) (s:CkS):XfP (x::l) p s=if (Xkd x p s).1=0 then XfP l p (Xkd x p s).2 else Xkd x p s:=by rw [XfP]
theorem Xmu (x:Cell) (l:List Cell) (p:Plc) (s:CkS):XdZ (x::l) p s=if (Xga x p s).1=0 then XdZ l p (Xga x p s).2 else Xga x p s:=by rw [XdZ]
theorem XrA (l:List Row) (p:Plc) (s:CkS):Xfo l p s=if l.length=0 then (11,s) else if 256 < l.length then (9,s) else XfP l p s:=by
  cases l with
  | nil=>simp [Xfo]
  | cons x l=>rw [Xfo,Xif,if_neg (c:=(x::l).length=0) (by simp)]
set_option maxHeartbeats 64000000 in
theorem Xuv (l:List Row) (hl:l.length≤1000000) (hb:∀ x ∈ l,∀ h cs,x=.mk h cs→HeadOk h∧cs.length≤1000000∧∀ y ∈ cs,∀ i h f,y=.mk i h f→HeadOk h∧XiF f):XAN l:=by
  intro p c s K H hc
  obtain ⟨q,hq0⟩:∃ q,Xfo l p s=q:=⟨_,rfl⟩
  rw [hq0]
  rw [XrA] at hq0
  obtain ⟨es,el,er,eb,eu,ts,tl,tr,tb,tu,hG,a1,a2,a3,a4,a5⟩:=hc
  refine Xw Tryz.func182 rfl rfl rfl ?_
  refine Zc ?_
  refine Zb ?_
  repeat(first|refine Zd ?_|(refine ZI ?_;intro id G hG))
  refine Za ?_
  obtain ⟨b5,hb5⟩:∃ b5,b5=id:=⟨_,rfl⟩
  rw [← hb5] at hG ⊢
  refine Xb7 (Has.swap6 [(b5,⟨Xax p,113,true⟩)] hG) ?_
  clear hG hb5
  intro G hG
  by_cases l0:l.length=0
  · rw [if_pos l0] at hq0
    repeat(first|refine Zd1 ?_)
    exact ZdL
  rw [if_neg l0] at hq0
  by_cases l1:256 < l.length
  · rw [if_pos l1] at hq0
    repeat(first|refine Zd1 ?_)
    exact ZdL
  rw [if_neg l1] at hq0
  repeat(first|refine Zd1 ?_)
  refine Xg (S:=Nat × CkS) (fun x=>[(0,.ptr c.ic 0),(5,.ptr b5 0),(21,X7 l),(22,I l.length),(23,I x.1)]) (fun x G=>x.1≤l.length∧XfP (l.drop x.1) p x.2=q∧CkH c x.2 ((b5,⟨Xax p,113,true⟩)::K) G) (fun x=>l.length - x.1) (0,s)
    (.cons rfl (.cons rfl (.cons rfl (.cons rfl (.cons rfl (.nil _)))))) ⟨Nat.zero_le _,hq0,⟨es,el,er,eb,eu,ts,tl,tr,tb,tu,hG,a1,a2,a3,a4,a5⟩⟩ ?_
  clear hG hq0 a1 a2 a3 a4 a5
  rintro ⟨i,s⟩ G ⟨hi,hf,hc⟩
  dsimp only at hi hf hc ⊢
  by_cases hil:i < l.length
  rotate_left
  · rw [List.drop_eq_nil_of_le (by omega),XfP] at hf
    obtain ⟨es,el,er,eb,eu,ts,tl,tr,tb,tu,hG,a1,a2,a3,a4,a5⟩:=hc
    repeat(first|refine Zd1 ?_)
    exact XG rfl rfl ⟨by rw [← hf];rfl,by rw [← hf];exact CkH.cut [(b5,⟨Xax p,113,true⟩)] ⟨es,el,er,eb,eu,ts,tl,tr,tb,tu,hG,a1,a2,a3,a4,a5⟩⟩
  obtain ⟨x,hx⟩:∃ x,l[i]?=some x:=⟨_,List.getElem?_eq_getElem hil⟩
  have ho:=Xu XaX l i x hx
  have hbx:=hb x (List.mem_of_getElem? hx)
  rw [Xak hx,Xif] at hf
  clear hb
  obtain ⟨h,cs⟩:=x
  obtain ⟨hh1,hcl,hcs⟩:=hbx h cs rfl
  clear hbx
  rw [X2] at ho
  obtain ⟨r,hr0⟩:∃ r,Xkd (.mk h cs) p s=r:=⟨_,rfl⟩
  rw [hr0] at hf
  rw [Xkd] at hr0
  obtain ⟨es,el,er,eb,eu,ts,tl,tr,tb,tu,hG,a1,a2,a3,a4,a5⟩:=hc
  repeat(first|refine Zd1 ?_|refine Zcx ?_|(refine ZA ?_;intro G hG)|(refine ZD ?_;intro id G hG))
  obtain ⟨b8,hb8⟩:∃ b8,b8=id:=⟨_,rfl⟩
  rw [← hb8] at hG ⊢
  refine Xb7 (Has.swap6 [(b8,⟨[Xn h.props,I h.ins,I h.move,Xy h.dels,Xx h.lyrs,Xau cs],94,true⟩)] hG) ?_
  clear hG hb8
  intro G hG
  have hc:CkH c s ((b8,⟨[Xn h.props,I h.ins,I h.move,Xy h.dels,Xx h.lyrs,Xau cs],94,true⟩)::(b5,⟨Xax p,113,true⟩)::K) G:=⟨es,el,er,eb,eu,ts,tl,tr,tb,tu,hG,a1,a2,a3,a4,a5⟩
  have hHd:=XjD (.refl s) hc (fun K G hc=>Xjc c s K G hc 9 h hh1)
  rw [Xm1 hc] at hHd
  have hW1:=Xbi (decide ((cs.length:Int)=0)) 11
  have hW2:=Xbi (decide ((32:Int) < cs.length)) 9
  generalize Xcb s 9 h=v1 at hHd hr0
  obtain ⟨v2,hv2⟩:∃ v,Xbv (decide ((cs.length:Int)=0)) 11=v:=⟨_,rfl⟩
  obtain ⟨v3,hv3⟩:∃ v,Xbv (decide ((32:Int) < cs.length)) 9=v:=⟨_,rfl⟩
  rw [hv2] at hW1 hr0
  rw [hv3] at hW2 hr0
  have hI:=Xbn [v1,v2,v3] (by simp)
  have tI:∀ c ∈ [Xc0 [v1,v2,v3]],Xi c:=TreeL.cons (XW _) TreeL.nil
  have tW:∀ (b:Bool) (e:Int),∀ c ∈ [B b,I e],Xi c:=fun b e=>TreeL.cons (Xi.v _) (TreeL.cons (Xi.v _) TreeL.nil)
  obtain ⟨H1,e1⟩:∃ X,X=G++[some (Blk.mk [I v1,I v2,I v3] 29 true)]:=⟨_,rfl⟩
  have hG1:=hG.new (Blk.mk [I v1,I v2,I v3] 29 true)
  rw [← e1] at hG1
  refine Z7 ?_
  repeat(first|refine Y_r 0 (by decide +kernel) (by decide +kernel) rfl rfl rfl rfl (by decide) (Xm rfl rfl (hG.get 6 _ _ rfl) rfl) ?_|refine XAZ 0 (by decide +kernel) (by decide +kernel) rfl rfl rfl rfl (by decide) (AC.K rfl rfl rfl rfl hHd) ?_|refine Y_k rfl rfl rfl (by decide) (fun _=>Iso.K rfl rfl rfl rfl hW1 (tW _ _)) ?_|refine Y_k rfl rfl rfl (by decide) (fun _=>Iso.K rfl rfl rfl rfl hW2 (tW _ _)) ?_|refine Zcr ?_|refine Zaw ?_|refine Zd6 ?_|refine Zbw ?_)
  have hG:=hG1.tail
  clear hG1 e1 hHd hW1 hW2 hI tI hc
  generalize XaA [v1,v2,v3]=e at hr0 ⊢
  by_cases e0:e=0
  rotate_left
  · rw [if_neg e0] at hr0
    rw [← hr0,if_neg e0] at hf
    repeat(first|refine Zd1 ?_)
    exact XG rfl rfl ⟨by rw [← hf];rfl,by rw [← hf];exact CkH.cut [(b8,⟨[Xn h.props,I h.ins,I h.move,Xy h.dels,Xx h.lyrs,Xau cs],94,true⟩),(b5,⟨Xax p,113,true⟩)] ⟨es,el,er,eb,eu,ts,tl,tr,tb,tu,hG,a1,a2,a3,a4,a5⟩⟩
  rw [if_pos e0] at hr0
  repeat(first|refine Zd1 ?_|refine ZR ?_)
  refine Xg (S:=Nat × CkS) (fun x=>[(0,.ptr c.ic 0),(5,.ptr b5 0),(8,.ptr b8 0),(21,X7 l),(22,I l.length),(23,I i),(47,Xau cs),(48,I cs.length),(49,I x.1)]) (fun x G=>x.1≤cs.length∧XdZ (cs.drop x.1) p x.2=r∧CkH c x.2 ((b8,⟨[Xn h.props,I h.ins,I h.move,Xy h.dels,Xx h.lyrs,Xau cs],94,true⟩)::(b5,⟨Xax p,113,true⟩)::K) G) (fun x=>cs.length - x.1) (0,s)
    (.cons rfl (.cons rfl (.cons rfl (.cons rfl (.cons rfl (.cons rfl (.cons rfl (.cons rfl (.cons rfl (.nil _)))))))))) ⟨Nat.zero_le _,hr0,⟨es,el,er,eb,eu,ts,tl,tr,tb,tu,hG,a1,a2,a3,a4,a5⟩⟩ ?_
  clear hG hr0 a1 a2 a3 a4 a5 hv2 hv3
  rintro ⟨j,s⟩ G ⟨hj,hr0,hc⟩
  dsimp only at hj hr0 hc ⊢
  by_cases hjl:j < cs.length
  rotate_left
  · rw [List.drop_eq_nil_of_le (by omega),XdZ] at hr0
    rw [← hr0,if_pos rfl] at hf
    obtain ⟨es,el,er,eb,eu,ts,tl,tr,tb,tu,hG,a1,a2,a3,a4,a5⟩:=hc
    repeat(first|refine Zd1 ?_)
    exact ⟨(i+1,s),by dsimp only;omega,.cons rfl (.cons rfl (.cons rfl (.cons rfl (.cons rfl (.nil _))))),by dsimp only;omega,hf,CkH.cut (K:=(b5,⟨Xax p,113,true⟩)::K) [(b8,⟨[Xn h.props,I h.ins,I h.move,Xy h.dels,Xx h.lyrs,Xau cs],94,true⟩)] ⟨es,el,er,eb,eu,ts,tl,tr,tb,tu,hG,a1,a2,a3,a4,a5⟩⟩
  obtain ⟨y,hy⟩:∃ y,cs[j]?=some y:=⟨_,List.getElem?_eq_getElem hjl⟩
  have oy:=Xu XaP cs j y hy
  have hcy:=hcs y (List.mem_of_getElem? hy)
  rw [Xak hy,Xmu] at hr0
  obtain ⟨ii,hh,ff⟩:=y
  obtain ⟨hhd,hfl⟩:=hcy ii hh ff rfl
  clear hcy
  rw [XZ] at oy
  obtain ⟨u,hu0⟩:∃ u,Xga (.mk ii hh ff) p s=u:=⟨_,rfl⟩
  rw [hu0] at hr0
  rw [Xga] at hu0
  obtain ⟨es,el,er,eb,eu,ts,tl,tr,tb,tu,hG,a1,a2,a3,a4,a5⟩:=hc
  repeat(first|refine Zd1 ?_|refine Xj rfl rfl (by decide) (Xf (cells:=cs.flatMap XB) rfl rfl rfl (by omega) (by exact oy)) ?_|(refine ZA ?_;intro G hG)|(refine ZD ?_;intro id G hG))
  obtain ⟨b11,hb11⟩:∃ b11,b11=id:=⟨_,rfl⟩
  rw [← hb11] at hG ⊢
  have hG:=Has.swap6 [(b11,⟨[I ii,Xn hh.props,I hh.ins,I hh.move,Xy hh.dels,Xx hh.lyrs,Xk ff],96,true⟩)] hG
  refine X0 rfl rfl rfl rfl rfl rfl (by decide) (Xvh c s _ _ ⟨es,el,er,eb,eu,ts,tl,tr,tb,tu,hG,a1,a2,a3,a4,a5⟩ ii) ?_
  rintro _ G ⟨rfl,hq⟩
  by_cases i0:idF s ii=0
  rotate_left
  · rw [if_neg i0] at hu0
    rw [← hu0] at hr0;dsimp only at hr0;rw [if_neg i0] at hr0
    rw [← hr0] at hf;dsimp only at hf;rw [if_neg i0] at hf
    have hG:=Has.nil G
    repeat(first|refine Zd1 ?_)
    exact ZcL
  rw [if_pos i0] at hu0
  generalize idS s ii=s1 at hq hu0
  obtain ⟨es,el,er,eb,eu,ts,tl,tr,tb,tu,hG,a1,a2,a3,a4,a5⟩:=hq
  repeat(first|refine Zd1 ?_|refine ZR ?_)
  refine X0 rfl rfl rfl rfl rfl rfl (by decide) (Xjc c s1 _ _ ⟨es,el,er,eb,eu,ts,tl,tr,tb,tu,hG,a1,a2,a3,a4,a5⟩ 10 hh hhd) ?_
  rintro _ G ⟨rfl,hq⟩
  by_cases h0:Xcb s1 10 hh=0
  rotate_left
  · rw [if_neg h0] at hu0
    rw [← hu0] at hr0;dsimp only at hr0;rw [if_neg h0] at hr0
    rw [← hr0] at hf;dsimp only at hf;rw [if_neg h0] at hf
    have hG:=Has.nil G
    repeat(first|refine Zd1 ?_)
    exact ZcL
  rw [if_pos h0] at hu0
  obtain ⟨es,el,er,eb,eu,ts,tl,tr,tb,tu,hG,a1,a2,a3,a4,a5⟩:=hq
  repeat(first|refine Zd1 ?_|refine ZR ?_|refine Zct ?_)
  refine X0 rfl rfl rfl rfl rfl rfl (by decide) (hfl p c s1 _ _ ⟨es,el,er,eb,eu,ts,tl,tr,tb,tu,hG,a1,a2,a3,a4,a5⟩) ?_
  rintro _ G ⟨rfl,hq⟩
  rw [hu0] at hq ⊢
  have hG:=Has.nil G
  by_cases u0:u.1=0
  rotate_left
  · rw [if_neg u0] at hr0
    rw [← hr0,if_neg u0] at hf
    repeat(first|refine Zd1 ?_)
    exact ZcL
  rw [if_pos u0] at hr0
  repeat(first|refine Zd1 ?_)
  exact ⟨(j+1,u.2),by dsimp only;omega,.cons rfl (.cons rfl (.cons rfl (.cons rfl (.cons rfl (.cons rfl (.cons rfl (.cons rfl (.cons rfl (.nil _))))))))),by dsimp only;omega,hr0,CkH.cut (K:=(b8,⟨[Xn h.props,I h.ins,I h.move,Xy h.dels,Xx h.lyrs,Xau cs],94,true⟩)::(b5,⟨Xax p,113,true⟩)::K) [(b11,⟨[I ii,Xn hh.props,I hh.ins,I hh.move,Xy hh.dels,Xx hh.lyrs,Xk ff],96,true⟩)] hq⟩
end Go.Proofs.YtlcphjcpoinolaaGreat
