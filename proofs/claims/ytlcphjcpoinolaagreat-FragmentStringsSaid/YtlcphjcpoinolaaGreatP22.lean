/- Part of the proof: the walk over the program and its laws: Ch Cj Ck. -/
import Derived.Test.YtlcphjcpoinolaaGreatP0
import Derived.Test.YtlcphjcpoinolaaGreatP19
import Derived.Test.YtlcphjcpoinolaaGreatP21
set_option linter.unusedVariables false
namespace Go.Proofs.YtlcphjcpoinolaaGreat
open Go.RowKit Go.Th
set_option maxRecDepth 20000
theorem Xdm {α:Type} (enc:α→List PV):∀ (l:List α) (i:Nat) (x:α),l[i]?=some x→(l.take (i+1)).flatMap enc=(l.take i).flatMap enc++enc x
  | [],i,x,h=>by simp at h
  | y::l,0,x,h=>by simp at h;subst h;simp
  | y::l,i+1,x,h=>by
    have:=Xdm enc l i x (by simpa using h)
    simp only [List.take_succ_cons,List.flatMap_cons,this,List.append_assoc]
theorem XrS (x:Item):(Xl x).all XV=true:=by cases x;rw [XK];rfl
theorem XpC (x:Row):(XS x).all XV=true:=by cases x;rw [X2];rfl
theorem Xnd (x:Cell):(XB x).all XV=true:=by cases x;rw [XZ];rfl
set_option maxHeartbeats 16000000 in
theorem XAH (g:Nat) (l:List Item) (hl:l.length≤1000000) (hE:∀ x ∈ l,Iso Tryz.prog g [.agg (Xl x)] (fun p=>p=.agg (Xl x))) :
    AC Tryz.prog 150 [XaK Xl 11 l,.fn (.func g) []] [] (XeU (l.flatMap Xl) 46 l.length 11):=by
  have hG:=Xc
  refine Xw Tryz.func150 rfl rfl rfl ?_
  repeat(first|refine Zd1 ?_)
  refine XQ 5 46 11 hG rfl ?_
  intro o G hG
  refine Xg (S:=Nat × Nat) (fun s=>[(1,.fn (.func g) []),(5,.sl s.2 0 s.1 11),(8,XaK Xl 11 l),(9,I l.length),(10,I s.1)]) (fun s G=>s.1≤l.length∧Has G [(s.2,⟨(l.take s.1).flatMap Xl,46,true⟩)]) (fun s=>l.length - s.1) (0,o)
    (.cons rfl (.cons rfl (.cons rfl (.cons rfl (.cons rfl (.nil _)))))) ⟨Nat.zero_le _,hG⟩ ?_
  clear hG
  rintro ⟨i,o⟩ G ⟨hi,hG⟩
  dsimp only at hi hG ⊢
  by_cases hil:i < l.length
  · obtain ⟨x,hx⟩:∃ x,l[i]?=some x:=⟨_,List.getElem?_eq_getElem hil⟩
    have hEx:=hE x (List.mem_of_getElem? hx)
    have htk:=Xdm Xl l i x hx
    have tx:∀ c ∈ Xl x,Xi c:=Xbq x
    have ox:=XrS x
    have hn:=XC XU (l.take i)
    rw [List.length_take,Nat.min_eq_left hi] at hn
    generalize (l.take i).flatMap Xl=a at htk hn hG
    obtain ⟨k,c,d,t,h,f,r⟩:=x
    rw [XK] at tx hEx htk ox
    clear hE
    repeat(first|refine Zd1 ?_|refine ZJ ?_|refine Xj rfl rfl (by decide) (Xf (cells:=l.flatMap Xl) rfl rfl rfl (by omega) (by exact Xi8 hx)) ?_|(refine Zbn ?_;rintro _ rfl)|(refine Zcl ?_;intro o2 G hG)|(refine ZA ?_;intro G hG)|(refine ZD ?_;intro id G hG)|(refine ZL ?_;intro id G hG))
    have hG:=XbV hG.tail.tail htk.symm
    exact Zbo
  · have ei:i=l.length:=by omega
    subst ei
    rw [List.take_length] at hG
    repeat(first|refine Zd1 ?_)
    exact Zbp
set_option maxHeartbeats 16000000 in
theorem XAG (g:Nat) (l:List Row) (hl:l.length≤1000000) (hE:∀ x ∈ l,Iso Tryz.prog g [.agg (XS x)] (fun p=>p=.agg (XS x))) :
    AC Tryz.prog 83 [XaK XS 6 l,.fn (.func g) []] [] (XeU (l.flatMap XS) 94 l.length 6):=by
  have hG:=Xc
  refine Xw Tryz.func83 rfl rfl rfl ?_
  repeat(first|refine Zd1 ?_)
  refine XQ 5 94 6 hG rfl ?_
  intro o G hG
  refine Xg (S:=Nat × Nat) (fun s=>[(1,.fn (.func g) []),(5,.sl s.2 0 s.1 6),(8,XaK XS 6 l),(9,I l.length),(10,I s.1)]) (fun s G=>s.1≤l.length∧Has G [(s.2,⟨(l.take s.1).flatMap XS,94,true⟩)]) (fun s=>l.length - s.1) (0,o)
    (.cons rfl (.cons rfl (.cons rfl (.cons rfl (.cons rfl (.nil _)))))) ⟨Nat.zero_le _,hG⟩ ?_
  clear hG
  rintro ⟨i,o⟩ G ⟨hi,hG⟩
  dsimp only at hi hG ⊢
  by_cases hil:i < l.length
  · obtain ⟨x,hx⟩:∃ x,l[i]?=some x:=⟨_,List.getElem?_eq_getElem hil⟩
    have hEx:=hE x (List.mem_of_getElem? hx)
    have htk:=Xdm XS l i x hx
    have tx:∀ c ∈ XS x,Xi c:=Xbw x
    have ox:=XpC x
    have hn:=XC XaX (l.take i)
    rw [List.length_take,Nat.min_eq_left hi] at hn
    generalize (l.take i).flatMap XS=a at htk hn hG
    obtain ⟨h,c⟩:=x
    rw [X2] at tx hEx htk ox
    clear hE
    repeat(first|refine Zd1 ?_|refine ZJ ?_|refine Xj rfl rfl (by decide) (Xf (cells:=l.flatMap XS) rfl rfl rfl (by omega) (by exact Xpj hx)) ?_|(refine Zbn ?_;rintro _ rfl)|(refine Zcl ?_;intro o2 G hG)|(refine ZA ?_;intro G hG)|(refine ZD ?_;intro id G hG)|(refine ZL ?_;intro id G hG))
    have hG:=XbV hG.tail.tail htk.symm
    exact Zbo
  · have ei:i=l.length:=by omega
    subst ei
    rw [List.take_length] at hG
    repeat(first|refine Zd1 ?_)
    exact Zbp
set_option maxHeartbeats 16000000 in
theorem XAF (g:Nat) (l:List Cell) (hl:l.length≤1000000) (hE:∀ x ∈ l,Iso Tryz.prog g [.agg (XB x)] (fun p=>p=.agg (XB x))) :
    AC Tryz.prog 145 [XaK XB 7 l,.fn (.func g) []] [] (XeU (l.flatMap XB) 96 l.length 7):=by
  have hG:=Xc
  refine Xw Tryz.func145 rfl rfl rfl ?_
  repeat(first|refine Zd1 ?_)
  refine XQ 5 96 7 hG rfl ?_
  intro o G hG
  refine Xg (S:=Nat × Nat) (fun s=>[(1,.fn (.func g) []),(5,.sl s.2 0 s.1 7),(8,XaK XB 7 l),(9,I l.length),(10,I s.1)]) (fun s G=>s.1≤l.length∧Has G [(s.2,⟨(l.take s.1).flatMap XB,96,true⟩)]) (fun s=>l.length - s.1) (0,o)
    (.cons rfl (.cons rfl (.cons rfl (.cons rfl (.cons rfl (.nil _)))))) ⟨Nat.zero_le _,hG⟩ ?_
  clear hG
  rintro ⟨i,o⟩ G ⟨hi,hG⟩
  dsimp only at hi hG ⊢
  by_cases hil:i < l.length
  · obtain ⟨x,hx⟩:∃ x,l[i]?=some x:=⟨_,List.getElem?_eq_getElem hil⟩
    have hEx:=hE x (List.mem_of_getElem? hx)
    have htk:=Xdm XB l i x hx
    have tx:∀ c ∈ XB x,Xi c:=Xbr x
    have ox:=Xnd x
    have hn:=XC XaP (l.take i)
    rw [List.length_take,Nat.min_eq_left hi] at hn
    generalize (l.take i).flatMap XB=a at htk hn hG
    obtain ⟨d,h,f⟩:=x
    rw [XZ] at tx hEx htk ox
    clear hE
    repeat(first|refine Zd1 ?_|refine ZJ ?_|refine Xj rfl rfl (by decide) (Xf (cells:=l.flatMap XB) rfl rfl rfl (by omega) (by exact Xmv hx)) ?_|(refine Zbn ?_;rintro _ rfl)|(refine Zcl ?_;intro o2 G hG)|(refine ZA ?_;intro G hG)|(refine ZD ?_;intro id G hG)|(refine ZL ?_;intro id G hG))
    have hG:=XbV hG.tail.tail htk.symm
    exact Zbo
  · have ei:i=l.length:=by omega
    subst ei
    rw [List.take_length] at hG
    repeat(first|refine Zd1 ?_)
    exact Zbp
end Go.Proofs.YtlcphjcpoinolaaGreat
namespace Go.Proofs.YtlcphjcpoinolaaGreat
open Go.RowKit Go.Th
set_option maxRecDepth 20000
def HBd (h:Head):Prop:=h.props.length≤1000000∧h.dels.length≤1000000∧h.lyrs.length≤1000000
theorem HBd.of {h:Head} (k:Xjw h≤300):HBd h:=by
  unfold Xjw at k
  exact ⟨by omega,by omega,by omega⟩
theorem XhC (l:List Prp) (hl:l.length≤1000000):Iso Tryz.prog 141 [Xn l] (fun p=>p=Xn l) :=
  XaY (XwP l hl) fun p H h=>XeU.conv (fun x _=>Xa (Xe _) (Xa (Xe _) Xp)) (XC XyQ l) h
theorem Xmq (l:List Dl) (hl:l.length≤1000000):Iso Tryz.prog 142 [Xy l] (fun p=>p=Xy l) :=
  XaY (XwO l hl) fun p H h=>XeU.conv (fun x _=>Xa (Xe _) (Xa (Xe _) Xp)) (XC XyP l) h
theorem Xmp (l:List Lyr) (hl:l.length≤1000000):Iso Tryz.prog 143 [Xx l] (fun p=>p=Xx l) :=
  XaY (XwN l hl) fun p H h=>XeU.conv (fun x _=>Xa (Xe _) (Xa (Xe _) (Xa (Xe _) (Xa (XcJ _) Xp)))) (XC XyO l) h
set_option maxHeartbeats 16000000 in
theorem Xam (h:Head) (hb:HBd h):Iso Tryz.prog 81 [.agg (XN h)] (fun p=>p=.agg (XN h)):=by
  have hG:=Xc
  have c1:=XhC h.props hb.1
  have c2:=Xmq h.dels hb.2.1
  have c3:=Xmp h.lyrs hb.2.2
  refine Xb Tryz.func81 rfl rfl rfl ?_
  repeat(first|refine Zd3 ?_|(refine Xr rfl rfl rfl rfl rfl rfl (by decide) c1 (TreeL.cons (XT _) TreeL.nil) ?_;rintro _ rfl)|(refine Za5 ?_;intro G hG)|(refine ZD ?_;intro id G hG)|(refine ZI ?_;intro id G hG))
  rename_i _ ib _ _ _ _
  have hG:Has G [(_,⟨_,43,true⟩),(ib,⟨XN h,43,true⟩)]:=hG
  obtain ⟨H1,e1⟩:∃ X,X=G.set ib (some ⟨XN h,43,true⟩):=⟨_,rfl⟩
  have hG1:=hG.set (k:=1) rfl ⟨XN h,43,true⟩
  rw [← e1] at hG1
  obtain ⟨H2,e2⟩:∃ X,X=H1.set ib (some ⟨XN h,43,true⟩):=⟨_,rfl⟩
  have hG2:=hG1.set (k:=1) rfl ⟨XN h,43,true⟩
  rw [← e2] at hG2
  refine XoT [H1,H2] H2 mixed (by decide +kernel) (N:=2) (by decide +kernel) rfl ?_
  repeat(first|refine Zbq ?_|refine Y_k rfl rfl rfl (by decide) (fun _=>Iso.K rfl rfl rfl rfl c2 (TreeL.cons (XbL _) TreeL.nil)) ?_|refine Y_k rfl rfl rfl (by decide) (fun _=>Iso.K rfl rfl rfl rfl c3 (TreeL.cons (XbJ _) TreeL.nil)) ?_|refine Zdf ?_|refine Zdg ?_|refine Zd6 ?_)
  have hG:=hG2
  repeat(first|refine Zd3 ?_|(refine ZA ?_;intro G hG))
  exact XcN rfl rfl (XaR (hG.get 0 _ _ rfl)) (.refl _) (Xi.agg (Xah _)) rfl
end Go.Proofs.YtlcphjcpoinolaaGreat
namespace Go.Proofs.YtlcphjcpoinolaaGreat
open Go.RowKit Go.Th
set_option maxRecDepth 20000
abbrev ClI (l:List Item):Prop:=Xz l≤300→Iso Tryz.prog 92 [Xk l] (fun p=>p=Xk l)
set_option maxHeartbeats 16000000 in
theorem XjC (x:Cell) (hc:XfB x≤300) (hI:∀ i h f,x=.mk i h f→ClI f):Iso Tryz.prog 192 [.agg (XB x)] (fun p=>p=.agg (XB x)):=by
  obtain ⟨d,h,f⟩:=x
  rw [XfB] at hc
  have hf:=hI d h f rfl (by omega)
  have hh:=Xam h (HBd.of (by omega))
  clear hI
  rw [XZ]
  have hG:=Xc
  refine Xb Tryz.func192 rfl rfl rfl ?_
  repeat(first|refine Zd3 ?_|(refine ZD ?_;intro id G hG)|(refine ZI ?_;intro id G hG))
  rename_i ib _ _
  have hG:Has G [(id,⟨_,96,true⟩),(ib,⟨[I d,Xn h.props,I h.ins,I h.move,Xy h.dels,Xx h.lyrs,Xk f],96,true⟩)]:=hG
  obtain ⟨H1,e1⟩:∃ X,X=G.set id (some ⟨[I d,Xn h.props,I h.ins,I h.move,Xy h.dels,Xx h.lyrs,Xk f],96,true⟩):=⟨_,rfl⟩
  have hG1:=hG.set (k:=0) rfl ⟨[I d,Xn h.props,I h.ins,I h.move,Xy h.dels,Xx h.lyrs,Xk f],96,true⟩
  rw [← e1] at hG1
  refine Z7 ?_
  repeat(first|refine Zbq ?_|refine Zbr ?_|refine Zcm ?_|refine Za6 ?_|refine Zd6 ?_)
  have hG:=hG1
  repeat(first|refine Zf ?_)
  exact Zdh
set_option maxHeartbeats 16000000 in
theorem XkY (x:Row) (hc:XfA x≤300) (hI:∀ h cs,x=.mk h cs→∀ y ∈ cs,∀ i hh f,y=.mk i hh f→ClI f):Iso Tryz.prog 152 [.agg (XS x)] (fun p=>p=.agg (XS x)):=by
  obtain ⟨h,cs⟩:=x
  rw [XfA] at hc
  have hl:=Xcg cs
  have hf:Iso Tryz.prog 145 [Xau cs,.fn (.func 192) []] (fun p=>p=Xau cs) :=
    XaY (XAF 192 cs (by omega) fun y hy=>XjC y (by have:=XcE hy;omega) (hI h cs rfl y hy)) fun p H h=>XeU.conv (fun x _=>Xbr x) (XC XaP cs) h
  have hh:=Xam h (HBd.of (by omega))
  clear hI
  rw [X2]
  have hG:=Xc
  refine Xb Tryz.func152 rfl rfl rfl ?_
  repeat(first|refine Zd3 ?_|(refine ZD ?_;intro id G hG)|(refine ZI ?_;intro id G hG))
  rename_i ib _ _
  have hG:Has G [(id,⟨_,94,true⟩),(ib,⟨[Xn h.props,I h.ins,I h.move,Xy h.dels,Xx h.lyrs,Xau cs],94,true⟩)]:=hG
  obtain ⟨H1,e1⟩:∃ X,X=G.set id (some ⟨[Xn h.props,I h.ins,I h.move,Xy h.dels,Xx h.lyrs,Xau cs],94,true⟩):=⟨_,rfl⟩
  have hG1:=hG.set (k:=0) rfl ⟨[Xn h.props,I h.ins,I h.move,Xy h.dels,Xx h.lyrs,Xau cs],94,true⟩
  rw [← e1] at hG1
  refine Z7 ?_
  repeat(first|refine Zbq ?_|refine Zbr ?_|refine Zdi ?_|refine Za6 ?_|refine Zd6 ?_)
  have hG:=hG1
  repeat(first|refine Zf ?_)
  exact Zdj
set_option maxHeartbeats 16000000 in
theorem XjB (x:Item) (hc:XbH x≤300) (hI:∀ k c i t h f r,x=.mk k c i t h f r→ClI f∧∀ y ∈ r,∀ h cs,y=.mk h cs→∀ y ∈ cs,∀ i hh f,y=.mk i hh f→ClI f):Iso Tryz.prog 151 [.agg (Xl x)] (fun p=>p=.agg (Xl x)):=by
  obtain ⟨k,c,i,t,h,f,r⟩:=x
  rw [XbH] at hc
  have hl:=Xcf r
  obtain ⟨hI1,hI2⟩:=hI k c i t h f r rfl
  have hf:=hI1 (by omega)
  have hr:Iso Tryz.prog 83 [X7 r,.fn (.func 152) []] (fun p=>p=X7 r) :=
    XaY (XAG 152 r (by omega) fun y hy=>XkY y (by have:=XcB hy;omega) (hI2 y hy)) fun p H h=>XeU.conv (fun x _=>Xbw x) (XC XaX r) h
  have hh:=Xam h (HBd.of (by omega))
  clear hI hI1 hI2
  rw [XK]
  have hG:=Xc
  refine Xb Tryz.func151 rfl rfl rfl ?_
  repeat(first|refine Zd3 ?_|(refine ZD ?_;intro id G hG)|(refine ZI ?_;intro id G hG))
  rename_i ib _ _
  have hG:Has G [(id,⟨_,46,true⟩),(ib,⟨[I k,I c,I i,S t,Xn h.props,I h.ins,I h.move,Xy h.dels,Xx h.lyrs,Xk f,X7 r],46,true⟩)]:=hG
  obtain ⟨H1,e1⟩:∃ X,X=G.set ib (some ⟨[I k,I c,I i,S t,Xn h.props,I h.ins,I h.move,Xy h.dels,Xx h.lyrs,Xk f,X7 r],46,true⟩):=⟨_,rfl⟩
  have hG1:=hG.set (k:=1) rfl ⟨[I k,I c,I i,S t,Xn h.props,I h.ins,I h.move,Xy h.dels,Xx h.lyrs,Xk f,X7 r],46,true⟩
  rw [← e1] at hG1
  obtain ⟨H2,e2⟩:∃ X,X=H1.set ib (some ⟨[I k,I c,I i,S t,Xn h.props,I h.ins,I h.move,Xy h.dels,Xx h.lyrs,Xk f,X7 r],46,true⟩):=⟨_,rfl⟩
  have hG2:=hG1.set (k:=1) rfl ⟨[I k,I c,I i,S t,Xn h.props,I h.ins,I h.move,Xy h.dels,Xx h.lyrs,Xk f,X7 r],46,true⟩
  rw [← e2] at hG2
  obtain ⟨H3,e3⟩:∃ X,X=H2.set ib (some ⟨[I k,I c,I i,S t,Xn h.props,I h.ins,I h.move,Xy h.dels,Xx h.lyrs,Xk f,X7 r],46,true⟩):=⟨_,rfl⟩
  have hG3:=hG2.set (k:=1) rfl ⟨[I k,I c,I i,S t,Xn h.props,I h.ins,I h.move,Xy h.dels,Xx h.lyrs,Xk f,X7 r],46,true⟩
  rw [← e3] at hG3
  refine Zdk ?_
  repeat(first|refine Zbq ?_|refine Zbr ?_|refine Zcm ?_|refine Y_k rfl rfl rfl (by decide) (fun _=>Iso.K rfl rfl rfl rfl hr (TreeL.cons (Xb9 _) (TreeL.cons (Xi.fn Xp) TreeL.nil))) ?_|refine Zdf ?_|refine Zdg ?_|refine Y_s 2 (by decide +kernel) rfl rfl rfl rfl (Xap rfl rfl rfl (hG2.get 1 _ _ rfl) rfl rfl rfl rfl rfl) e3 ?_|refine Zd6 ?_)
  have hG:=hG3
  repeat(first|refine Zd3 ?_|(refine ZA ?_;intro G hG))
  exact XcN rfl rfl (XaR (hG.get 0 _ _ rfl)) (.refl _) (Xi.agg (by rw [← XK];exact Xbq _)) rfl
set_option maxHeartbeats 4000000 in
theorem XeS (l:List Item) (hc:Xz l≤300) (hE:∀ x ∈ l,Iso Tryz.prog 151 [.agg (Xl x)] (fun p=>p=.agg (Xl x))):AC Tryz.prog 92 [Xk l] [] (XeU (l.flatMap Xl) 46 l.length 11):=by
  have hl:=XaH l
  have h61:=XAH 151 l (by omega) hE
  have hG:=Xc
  refine Xw Tryz.func92 rfl rfl rfl ?_
  repeat(first|refine Zd1 ?_)
  refine X0 rfl rfl rfl rfl rfl rfl (by decide) h61 ?_
  rintro _ G ⟨o,rfl,hB⟩
  repeat(first|refine Zd1 ?_)
  exact XG rfl rfl ⟨o,rfl,hB⟩
theorem XhZ:∀ (n:Nat) (l:List Item),SizeOf.sizeOf l≤n→Xz l≤300→∀ x ∈ l,Iso Tryz.prog 151 [.agg (Xl x)] (fun p=>p=.agg (Xl x)):=by
  intro n
  induction n with
  | zero=>intro l hl;cases l <;> simp at hl <;> omega
  | succ n ih =>
    intro l hl hc x hx
    have hxl:=List.sizeOf_lt_of_mem hx
    have hxc:=XcC hx
    have go:∀ f:List Item,SizeOf.sizeOf f≤n→ClI f:=fun f hf hcf =>
      XaY (XeS f hcf (ih f hf hcf)) fun p H h=>XeU.conv (fun x _=>Xbq x) (XC XU f) h
    refine XjB x (by omega) ?_
    rintro k c i t h f r rfl
    simp only [Item.mk.sizeOf_spec] at hxl
    refine ⟨go f (by omega),?_⟩
    rintro y hy hh cs rfl z hz j hz2 g rfl
    have h1:=List.sizeOf_lt_of_mem hy
    have h2:=List.sizeOf_lt_of_mem hz
    simp only [Row.mk.sizeOf_spec] at h1
    simp only [Cell.mk.sizeOf_spec] at h2
    exact go g (by omega)
theorem XwR (l:List Item) (hc:Xz l≤300):AC Tryz.prog 92 [Xk l] [] (XeU (l.flatMap Xl) 46 l.length 11) :=
  XeS l hc (XhZ _ l (Nat.le_refl _) hc)
theorem Xms (l:List Item):ClI l:=fun hc=>XaY (XwR l hc) fun p H h=>XeU.conv (fun x _=>Xbq x) (XC XU l) h
end Go.Proofs.YtlcphjcpoinolaaGreat
