/- Part of the proof: the walk over the program and its laws: Ch Cj Ck. -/
import Derived.Test.YtlcphjcpoinolaaGreatP0
import Derived.Test.YtlcphjcpoinolaaGreatP2
import Derived.Test.YtlcphjcpoinolaaGreatP34
set_option linter.unusedVariables false
namespace Go.Proofs.YtlcphjcpoinolaaGreat
open Go.RowKit Go.Th
set_option maxRecDepth 20000
theorem Xdd {α:Type} (enc:α→List PV):∀ (l:List α) (i:Nat) (x:α),l[i]?=some x→(l.take (i+1)).flatMap enc=(l.take i).flatMap enc++enc x
  | [],i,x,h=>by simp at h
  | y::l,0,x,h=>by simp at h;subst h;simp
  | y::l,i+1,x,h=>by
    have:=Xdd enc l i x (by simpa using h)
    simp only [List.take_succ_cons,List.flatMap_cons,this,List.append_assoc]
theorem XrC (x:Item):(Xo x).all XZ=true:=by cases x;rw [XG];rfl
theorem Xpa (x:Row):(XT x).all XZ=true:=by cases x;rw [X0];rfl
theorem Xmz (x:Cell):(XA x).all XZ=true:=by cases x;rw [XW];rfl
set_option maxHeartbeats 16000000 in
theorem XAH (g:Nat) (l:List Item) (hl:l.length≤1000000) (hE:∀ x ∈ l,Iso Tryz.prog g [.agg (Xo x)] (fun p=>p=.agg (Xo x))) :
    AC Tryz.prog 150 [XaE Xo 11 l,.fn (.func g) []] [] (XeN (l.flatMap Xo) 46 l.length 11):=by
  have hG:=Xd
  refine Xv Tryz.func150 rfl rfl rfl ?_
  repeat(first|refine Zes ?_)
  refine X1 5 46 11 hG rfl ?_
  intro o G hG
  refine Xg (S:=Nat × Nat) (fun s=>[(1,.fn (.func g) []),(5,.sl s.2 0 s.1 11),(8,XaE Xo 11 l),(9,I l.length),(10,I s.1)]) (fun s G=>s.1≤l.length∧Has G [(s.2,⟨(l.take s.1).flatMap Xo,46,true⟩)]) (fun s=>l.length - s.1) (0,o)
    (.cons rfl (.cons rfl (.cons rfl (.cons rfl (.cons rfl (.nil _)))))) ⟨Nat.zero_le _,hG⟩ ?_
  clear hG
  rintro ⟨i,o⟩ G ⟨hi,hG⟩
  dsimp only at hi hG ⊢
  by_cases hil:i < l.length
  · obtain ⟨x,hx⟩:∃ x,l[i]?=some x:=⟨_,List.getElem?_eq_getElem hil⟩
    have hEx:=hE x (List.mem_of_getElem? hx)
    have htk:=Xdd Xo l i x hx
    have tx:∀ c ∈ Xo x,Xk c:=XaW x
    have ox:=XrC x
    have hn:=XF X4 (l.take i)
    rw [List.length_take,Nat.min_eq_left hi] at hn
    generalize (l.take i).flatMap Xo=a at htk hn hG
    obtain ⟨k,c,d,t,h,f,r⟩:=x
    rw [XG] at tx hEx htk ox
    clear hE
    repeat(first|refine Zes ?_|refine ZJ ?_|refine ZbO ?_|(refine Zbq ?_;rintro _ rfl)|(refine Zct ?_;intro o2 G hG)|(refine Zz ?_;intro G hG)|(refine ZI ?_;intro id G hG)|(refine ZO ?_;intro id G hG))
    have hG:=XbU hG.tail.tail htk.symm
    exact Zbr
  · have ei:i=l.length:=by omega
    subst ei
    rw [List.take_length] at hG
    repeat(first|refine Zes ?_)
    exact Zbs
set_option maxHeartbeats 16000000 in
theorem XAG (g:Nat) (l:List Row) (hl:l.length≤1000000) (hE:∀ x ∈ l,Iso Tryz.prog g [.agg (XT x)] (fun p=>p=.agg (XT x))) :
    AC Tryz.prog 83 [XaE XT 6 l,.fn (.func g) []] [] (XeN (l.flatMap XT) 94 l.length 6):=by
  have hG:=Xd
  refine Xv Tryz.func83 rfl rfl rfl ?_
  repeat(first|refine Zes ?_)
  refine X1 5 94 6 hG rfl ?_
  intro o G hG
  refine Xg (S:=Nat × Nat) (fun s=>[(1,.fn (.func g) []),(5,.sl s.2 0 s.1 6),(8,XaE XT 6 l),(9,I l.length),(10,I s.1)]) (fun s G=>s.1≤l.length∧Has G [(s.2,⟨(l.take s.1).flatMap XT,94,true⟩)]) (fun s=>l.length - s.1) (0,o)
    (.cons rfl (.cons rfl (.cons rfl (.cons rfl (.cons rfl (.nil _)))))) ⟨Nat.zero_le _,hG⟩ ?_
  clear hG
  rintro ⟨i,o⟩ G ⟨hi,hG⟩
  dsimp only at hi hG ⊢
  by_cases hil:i < l.length
  · obtain ⟨x,hx⟩:∃ x,l[i]?=some x:=⟨_,List.getElem?_eq_getElem hil⟩
    have hEx:=hE x (List.mem_of_getElem? hx)
    have htk:=Xdd XT l i x hx
    have tx:∀ c ∈ XT x,Xk c:=Xbv x
    have ox:=Xpa x
    have hn:=XF Xaq (l.take i)
    rw [List.length_take,Nat.min_eq_left hi] at hn
    generalize (l.take i).flatMap XT=a at htk hn hG
    obtain ⟨h,c⟩:=x
    rw [X0] at tx hEx htk ox
    clear hE
    repeat(first|refine Zes ?_|refine ZJ ?_|refine ZbP ?_|(refine Zbq ?_;rintro _ rfl)|(refine Zct ?_;intro o2 G hG)|(refine Zz ?_;intro G hG)|(refine ZI ?_;intro id G hG)|(refine ZO ?_;intro id G hG))
    have hG:=XbU hG.tail.tail htk.symm
    exact Zbr
  · have ei:i=l.length:=by omega
    subst ei
    rw [List.take_length] at hG
    repeat(first|refine Zes ?_)
    exact Zbs
set_option maxHeartbeats 16000000 in
theorem XAF (g:Nat) (l:List Cell) (hl:l.length≤1000000) (hE:∀ x ∈ l,Iso Tryz.prog g [.agg (XA x)] (fun p=>p=.agg (XA x))) :
    AC Tryz.prog 145 [XaE XA 7 l,.fn (.func g) []] [] (XeN (l.flatMap XA) 96 l.length 7):=by
  have hG:=Xd
  refine Xv Tryz.func145 rfl rfl rfl ?_
  repeat(first|refine Zes ?_)
  refine X1 5 96 7 hG rfl ?_
  intro o G hG
  refine Xg (S:=Nat × Nat) (fun s=>[(1,.fn (.func g) []),(5,.sl s.2 0 s.1 7),(8,XaE XA 7 l),(9,I l.length),(10,I s.1)]) (fun s G=>s.1≤l.length∧Has G [(s.2,⟨(l.take s.1).flatMap XA,96,true⟩)]) (fun s=>l.length - s.1) (0,o)
    (.cons rfl (.cons rfl (.cons rfl (.cons rfl (.cons rfl (.nil _)))))) ⟨Nat.zero_le _,hG⟩ ?_
  clear hG
  rintro ⟨i,o⟩ G ⟨hi,hG⟩
  dsimp only at hi hG ⊢
  by_cases hil:i < l.length
  · obtain ⟨x,hx⟩:∃ x,l[i]?=some x:=⟨_,List.getElem?_eq_getElem hil⟩
    have hEx:=hE x (List.mem_of_getElem? hx)
    have htk:=Xdd XA l i x hx
    have tx:∀ c ∈ XA x,Xk c:=Xbn x
    have ox:=Xmz x
    have hn:=XF Xai (l.take i)
    rw [List.length_take,Nat.min_eq_left hi] at hn
    generalize (l.take i).flatMap XA=a at htk hn hG
    obtain ⟨d,h,f⟩:=x
    rw [XW] at tx hEx htk ox
    clear hE
    repeat(first|refine Zes ?_|refine ZJ ?_|refine Xn rfl rfl (by decide) (Xc (cells:=l.flatMap XA) rfl rfl rfl (by omega) (by exact Xjq hx)) ?_|(refine Zbq ?_;rintro _ rfl)|(refine Zct ?_;intro o2 G hG)|(refine Zz ?_;intro G hG)|(refine ZI ?_;intro id G hG)|(refine ZO ?_;intro id G hG))
    have hG:=XbU hG.tail.tail htk.symm
    exact Zbr
  · have ei:i=l.length:=by omega
    subst ei
    rw [List.take_length] at hG
    repeat(first|refine Zes ?_)
    exact Zbs
end Go.Proofs.YtlcphjcpoinolaaGreat
namespace Go.Proofs.YtlcphjcpoinolaaGreat
open Go.RowKit Go.Th
set_option maxRecDepth 20000
def HBd (h:Head):Prop:=h.props.length≤1000000∧h.dels.length≤1000000∧h.lyrs.length≤1000000
theorem HBd.of {h:Head} (k:Xhg h≤300):HBd h:=by
  unfold Xhg at k
  exact ⟨by omega,by omega,by omega⟩
theorem Xhj (l:List Prp) (hl:l.length≤1000000):Iso Tryz.prog 141 [Xf l] (fun p=>p=Xf l) :=
  Xa3 (XwM l hl) fun p H h=>XeN.conv (fun x _=>Xa (Xe _) (Xa (Xe _) Xs)) (XF XyO l) h
theorem XlU (l:List Dl) (hl:l.length≤1000000):Iso Tryz.prog 142 [Xm l] (fun p=>p=Xm l) :=
  Xa3 (XwL l hl) fun p H h=>XeN.conv (fun x _=>Xa (Xe _) (Xa (Xe _) Xs)) (XF XyN l) h
theorem XlT (l:List Lyr) (hl:l.length≤1000000):Iso Tryz.prog 143 [Xl l] (fun p=>p=Xl l) :=
  Xa3 (XwK l hl) fun p H h=>XeN.conv (fun x _=>Xa (Xe _) (Xa (Xe _) (Xa (Xe _) (Xa (Xcv _) Xs)))) (XF XyM l) h
set_option maxHeartbeats 16000000 in
theorem Xal (h:Head) (hb:HBd h):Iso Tryz.prog 81 [.agg (XL h)] (fun p=>p=.agg (XL h)):=by
  have hG:=Xd
  have c1:=Xhj h.props hb.1
  have c2:=XlU h.dels hb.2.1
  have c3:=XlT h.lyrs hb.2.2
  refine Xb Tryz.func81 rfl rfl rfl ?_
  repeat(first|refine Zev ?_|(refine Xr rfl rfl rfl rfl rfl rfl (by decide) c1 (TreeL.cons (XX _) TreeL.nil) ?_;rintro _ rfl)|(refine ZaP ?_;intro G hG)|(refine ZI ?_;intro id G hG)|(refine ZH ?_;intro id G hG))
  rename_i _ ib _ _ _ _
  have hG:Has G [(_,⟨_,43,true⟩),(ib,⟨XL h,43,true⟩)]:=hG
  obtain ⟨H1,e1⟩:∃ X,X=G.set ib (some ⟨XL h,43,true⟩):=⟨_,rfl⟩
  have hG1:=hG.set (k:=1) rfl ⟨XL h,43,true⟩
  rw [← e1] at hG1
  obtain ⟨H2,e2⟩:∃ X,X=H1.set ib (some ⟨XL h,43,true⟩):=⟨_,rfl⟩
  have hG2:=hG1.set (k:=1) rfl ⟨XL h,43,true⟩
  rw [← e2] at hG2
  refine XhS [H1,H2] H2 mixed (by decide +kernel) (N:=2) (by decide +kernel) rfl ?_
  repeat(first|refine Za9 ?_|refine Y_k rfl rfl rfl (by decide) (fun _=>Iso.K rfl rfl rfl rfl c2 (TreeL.cons (XbJ _) TreeL.nil)) ?_|refine Y_k rfl rfl rfl (by decide) (fun _=>Iso.K rfl rfl rfl rfl c3 (TreeL.cons (XbI _) TreeL.nil)) ?_|refine Zdr ?_|refine Zds ?_|refine Zex ?_)
  have hG:=hG2
  repeat(first|refine Zev ?_|(refine Zz ?_;intro G hG))
  exact Zdt
end Go.Proofs.YtlcphjcpoinolaaGreat
namespace Go.Proofs.YtlcphjcpoinolaaGreat
open Go.RowKit Go.Th
set_option maxRecDepth 20000
abbrev ClI (l:List Item):Prop:=Xw l≤300→Iso Tryz.prog 92 [Xh l] (fun p=>p=Xh l)
set_option maxHeartbeats 16000000 in
theorem Xjm (x:Cell) (hc:XdR x≤300) (hI:∀ i h f,x=.mk i h f→ClI f):Iso Tryz.prog 192 [.agg (XA x)] (fun p=>p=.agg (XA x)):=by
  obtain ⟨d,h,f⟩:=x
  rw [XdR] at hc
  have hf:=hI d h f rfl (by omega)
  have hh:=Xal h (HBd.of (by omega))
  clear hI
  rw [XW]
  have hG:=Xd
  refine Xb Tryz.func192 rfl rfl rfl ?_
  repeat(first|refine Zev ?_|(refine ZI ?_;intro id G hG)|(refine ZH ?_;intro id G hG))
  rename_i ib _ _
  have hG:Has G [(id,⟨_,96,true⟩),(ib,⟨[I d,Xf h.props,I h.ins,I h.move,Xm h.dels,Xl h.lyrs,Xh f],96,true⟩)]:=hG
  obtain ⟨H1,e1⟩:∃ X,X=G.set id (some ⟨[I d,Xf h.props,I h.ins,I h.move,Xm h.dels,Xl h.lyrs,Xh f],96,true⟩):=⟨_,rfl⟩
  have hG1:=hG.set (k:=0) rfl ⟨[I d,Xf h.props,I h.ins,I h.move,Xm h.dels,Xl h.lyrs,Xh f],96,true⟩
  rw [← e1] at hG1
  refine Zaa ?_
  repeat(first|refine Za9 ?_|refine Zbt ?_|refine Zcu ?_|refine Zbb ?_|refine Zex ?_)
  have hG:=hG1
  repeat(first|refine Zf ?_)
  exact Zdu
set_option maxHeartbeats 16000000 in
theorem XkD (x:Row) (hc:Xeg x≤300) (hI:∀ h cs,x=.mk h cs→∀ y ∈ cs,∀ i hh f,y=.mk i hh f→ClI f):Iso Tryz.prog 152 [.agg (XT x)] (fun p=>p=.agg (XT x)):=by
  obtain ⟨h,cs⟩:=x
  rw [Xeg] at hc
  have hl:=XbN cs
  have hf:Iso Tryz.prog 145 [Xak cs,.fn (.func 192) []] (fun p=>p=Xak cs) :=
    Xa3 (XAF 192 cs (by omega) fun y hy=>Xjm y (by have:=Xcf hy;omega) (hI h cs rfl y hy)) fun p H h=>XeN.conv (fun x _=>Xbn x) (XF Xai cs) h
  have hh:=Xal h (HBd.of (by omega))
  clear hI
  rw [X0]
  have hG:=Xd
  refine Xb Tryz.func152 rfl rfl rfl ?_
  repeat(first|refine Zev ?_|(refine ZI ?_;intro id G hG)|(refine ZH ?_;intro id G hG))
  rename_i ib _ _
  have hG:Has G [(id,⟨_,94,true⟩),(ib,⟨[Xf h.props,I h.ins,I h.move,Xm h.dels,Xl h.lyrs,Xak cs],94,true⟩)]:=hG
  obtain ⟨H1,e1⟩:∃ X,X=G.set id (some ⟨[Xf h.props,I h.ins,I h.move,Xm h.dels,Xl h.lyrs,Xak cs],94,true⟩):=⟨_,rfl⟩
  have hG1:=hG.set (k:=0) rfl ⟨[Xf h.props,I h.ins,I h.move,Xm h.dels,Xl h.lyrs,Xak cs],94,true⟩
  rw [← e1] at hG1
  refine Zaa ?_
  repeat(first|refine Za9 ?_|refine Zbt ?_|refine Zdv ?_|refine Zbb ?_|refine Zex ?_)
  have hG:=hG1
  repeat(first|refine Zf ?_)
  exact Zdw
set_option maxHeartbeats 16000000 in
theorem Xjl (x:Item) (hc:XbG x≤300) (hI:∀ k c i t h f r,x=.mk k c i t h f r→ClI f∧∀ y ∈ r,∀ h cs,y=.mk h cs→∀ y ∈ cs,∀ i hh f,y=.mk i hh f→ClI f):Iso Tryz.prog 151 [.agg (Xo x)] (fun p=>p=.agg (Xo x)):=by
  obtain ⟨k,c,i,t,h,f,r⟩:=x
  rw [XbG] at hc
  have hl:=XbM r
  obtain ⟨hI1,hI2⟩:=hI k c i t h f r rfl
  have hf:=hI1 (by omega)
  have hr:Iso Tryz.prog 83 [XD r,.fn (.func 152) []] (fun p=>p=XD r) :=
    Xa3 (XAG 152 r (by omega) fun y hy=>XkD y (by have:=Xcd hy;omega) (hI2 y hy)) fun p H h=>XeN.conv (fun x _=>Xbv x) (XF Xaq r) h
  have hh:=Xal h (HBd.of (by omega))
  clear hI hI1 hI2
  rw [XG]
  have hG:=Xd
  refine Xb Tryz.func151 rfl rfl rfl ?_
  repeat(first|refine Zev ?_|(refine ZI ?_;intro id G hG)|(refine ZH ?_;intro id G hG))
  rename_i ib _ _
  have hG:Has G [(id,⟨_,46,true⟩),(ib,⟨[I k,I c,I i,S t,Xf h.props,I h.ins,I h.move,Xm h.dels,Xl h.lyrs,Xh f,XD r],46,true⟩)]:=hG
  obtain ⟨H1,e1⟩:∃ X,X=G.set ib (some ⟨[I k,I c,I i,S t,Xf h.props,I h.ins,I h.move,Xm h.dels,Xl h.lyrs,Xh f,XD r],46,true⟩):=⟨_,rfl⟩
  have hG1:=hG.set (k:=1) rfl ⟨[I k,I c,I i,S t,Xf h.props,I h.ins,I h.move,Xm h.dels,Xl h.lyrs,Xh f,XD r],46,true⟩
  rw [← e1] at hG1
  obtain ⟨H2,e2⟩:∃ X,X=H1.set ib (some ⟨[I k,I c,I i,S t,Xf h.props,I h.ins,I h.move,Xm h.dels,Xl h.lyrs,Xh f,XD r],46,true⟩):=⟨_,rfl⟩
  have hG2:=hG1.set (k:=1) rfl ⟨[I k,I c,I i,S t,Xf h.props,I h.ins,I h.move,Xm h.dels,Xl h.lyrs,Xh f,XD r],46,true⟩
  rw [← e2] at hG2
  obtain ⟨H3,e3⟩:∃ X,X=H2.set ib (some ⟨[I k,I c,I i,S t,Xf h.props,I h.ins,I h.move,Xm h.dels,Xl h.lyrs,Xh f,XD r],46,true⟩):=⟨_,rfl⟩
  have hG3:=hG2.set (k:=1) rfl ⟨[I k,I c,I i,S t,Xf h.props,I h.ins,I h.move,Xm h.dels,Xl h.lyrs,Xh f,XD r],46,true⟩
  rw [← e3] at hG3
  refine Zdx ?_
  repeat(first|refine Za9 ?_|refine Zbt ?_|refine Zcu ?_|refine Y_k rfl rfl rfl (by decide) (fun _=>Iso.K rfl rfl rfl rfl hr (TreeL.cons (Xca _) (TreeL.cons (Xk.fn Xs) TreeL.nil))) ?_|refine Zdr ?_|refine Zds ?_|refine Y_s 2 (by decide +kernel) rfl rfl rfl rfl (XH rfl rfl rfl (hG2.get 1 _ _ rfl) rfl rfl rfl rfl rfl) e3 ?_|refine Zex ?_)
  have hG:=hG3
  repeat(first|refine Zev ?_|(refine Zz ?_;intro G hG))
  exact XcK rfl rfl (XaV (hG.get 0 _ _ rfl)) (.refl _) (Xk.agg (by rw [← XG];exact XaW _)) rfl
set_option maxHeartbeats 4000000 in
theorem XeL (l:List Item) (hc:Xw l≤300) (hE:∀ x ∈ l,Iso Tryz.prog 151 [.agg (Xo x)] (fun p=>p=.agg (Xo x))):AC Tryz.prog 92 [Xh l] [] (XeN (l.flatMap Xo) 46 l.length 11):=by
  have hl:=XaK l
  have h61:=XAH 151 l (by omega) hE
  have hG:=Xd
  refine Xv Tryz.func92 rfl rfl rfl ?_
  repeat(first|refine Zes ?_)
  refine X5 rfl rfl rfl rfl rfl rfl (by decide) h61 ?_
  rintro _ G ⟨o,rfl,hB⟩
  repeat(first|refine Zes ?_)
  exact XC rfl rfl ⟨o,rfl,hB⟩
theorem XhL:∀ (n:Nat) (l:List Item),SizeOf.sizeOf l≤n→Xw l≤300→∀ x ∈ l,Iso Tryz.prog 151 [.agg (Xo x)] (fun p=>p=.agg (Xo x)):=by
  intro n
  induction n with
  | zero=>intro l hl;cases l <;> simp at hl <;> omega
  | succ n ih =>
    intro l hl hc x hx
    have hxl:=List.sizeOf_lt_of_mem hx
    have hxc:=Xce hx
    have go:∀ f:List Item,SizeOf.sizeOf f≤n→ClI f:=fun f hf hcf =>
      Xa3 (XeL f hcf (ih f hf hcf)) fun p H h=>XeN.conv (fun x _=>XaW x) (XF X4 f) h
    refine Xjl x (by omega) ?_
    rintro k c i t h f r rfl
    simp only [Item.mk.sizeOf_spec] at hxl
    refine ⟨go f (by omega),?_⟩
    rintro y hy hh cs rfl z hz j hz2 g rfl
    have h1:=List.sizeOf_lt_of_mem hy
    have h2:=List.sizeOf_lt_of_mem hz
    simp only [Row.mk.sizeOf_spec] at h1
    simp only [Cell.mk.sizeOf_spec] at h2
    exact go g (by omega)
theorem XwO (l:List Item) (hc:Xw l≤300):AC Tryz.prog 92 [Xh l] [] (XeN (l.flatMap Xo) 46 l.length 11) :=
  XeL l hc (XhL _ l (Nat.le_refl _) hc)
theorem XlV (l:List Item):ClI l:=fun hc=>Xa3 (XwO l hc) fun p H h=>XeN.conv (fun x _=>XaW x) (XF X4 l) h
end Go.Proofs.YtlcphjcpoinolaaGreat
