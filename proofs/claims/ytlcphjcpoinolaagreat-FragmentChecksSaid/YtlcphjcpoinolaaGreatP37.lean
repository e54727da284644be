/- Part of the proof: the walk over the program and its laws: Nm. -/
import Derived.Test.YtlcphjcpoinolaaGreatP0
import Derived.Test.YtlcphjcpoinolaaGreatP35
import Derived.Test.YtlcphjcpoinolaaGreatP31
set_option linter.unusedVariables false
namespace Go.Proofs.YtlcphjcpoinolaaGreat
open Go.RowKit Go.Th
set_option maxRecDepth 20000
theorem XsH {P:Program} {E:Env} {H:Xi} {o:Oper} {t ty:TypeId} {x y:Operand} {a b:ByteArray} (ho:o.op=.binOp .add t x y ty) (hx:E.ev x=some (.v (.string a))) (hy:E.ev y=some (.v (.string b))) (h:a.size+b.size≤9223372036854775807) :
    OpV P o E H (.v (.string (a++b))):=X7 ho hx hy rfl rfl (fun w=>by
  have hmax:IntKind.i64.max=9223372036854775807:=rfl
  have h':¬ ((9223372036854775807:Int) < (a.size:Int)+(b.size:Int)):=by omega
  simp [eqGuard,binOp,Op.stringOp,hmax,h']) rfl
set_option maxHeartbeats 16000000 in
theorem Xsb (g:Nat) (F:Row→Row) (l:List Row) (hl:l.length≤1000000) (hE:∀ x ∈ l,Iso Tryz.prog g [.agg (XT x)] (fun p=>p=.agg (XT (F x)))) :
    AC Tryz.prog 83 [XaE XT 6 l,.fn (.func g) []] [] (XeN ((l.map F).flatMap XT) 94 (l.map F).length 6):=by
  have hG:=Xd
  refine Xv Tryz.func83 rfl rfl rfl ?_
  repeat(first|refine Zes ?_)
  refine X1 5 94 6 hG rfl ?_
  intro o G hG
  have hml:(l.map F).length=l.length:=List.length_map _
  rw [hml]
  refine Xg (S:=Nat × Nat) (fun s=>[(1,.fn (.func g) []),(5,.sl s.2 0 s.1 6),(8,XaE XT 6 l),(9,I l.length),(10,I s.1)]) (fun s G=>s.1≤l.length∧Has G [(s.2,⟨((l.map F).take s.1).flatMap XT,94,true⟩)]) (fun s=>l.length - s.1) (0,o)
    (.cons rfl (.cons rfl (.cons rfl (.cons rfl (.cons rfl (.nil _)))))) ⟨Nat.zero_le _,hG⟩ ?_
  clear hG
  rintro ⟨i,o⟩ G ⟨hi,hG⟩
  dsimp only at hi hG ⊢
  by_cases hil:i < l.length
  · obtain ⟨x,hx⟩:∃ x,l[i]?=some x:=⟨_,List.getElem?_eq_getElem hil⟩
    have hEx:=hE x (List.mem_of_getElem? hx)
    have hm:(l.map F)[i]?=some (F x):=by rw [List.getElem?_map,hx];rfl
    have htk:=Xdd XT (l.map F) i (F x) hm
    have ho:=Xp Xaq l i x hx
    have tx:∀ c ∈ XT x,Xk c:=Xbv x
    generalize F x=y at hEx htk
    have oy:=Xpa y
    have hn:=XF Xaq ((l.map F).take i)
    rw [List.length_take,hml,Nat.min_eq_left hi] at hn
    generalize ((l.map F).take i).flatMap XT=a at htk hn hG
    obtain ⟨h,c⟩:=x
    obtain ⟨h2,c2⟩:=y
    rw [X0] at tx hEx htk oy ho
    rw [X0] at hEx
    clear hE hm
    repeat(first|refine Zes ?_|refine ZJ ?_|refine ZcL ?_|(refine Zbq ?_;rintro _ rfl)|(refine ZdN ?_;intro o2 G hG)|(refine Zz ?_;intro G hG)|(refine ZI ?_;intro id G hG)|(refine ZO ?_;intro id G hG))
    have hG:=XbU hG.tail.tail htk.symm
    exact Zbr
  · have ei:i=l.length:=by omega
    subst ei
    rw [← hml,List.take_length] at hG
    repeat(first|refine Zes ?_)
    exact Zbs
theorem Xkx (g:Nat) (F:Row→Row) (l:List Row) (hl:l.length≤1000000) (hE:∀ x ∈ l,Iso Tryz.prog g [.agg (XT x)] (fun p=>p=.agg (XT (F x)))) :
    Iso Tryz.prog 83 [XD l,.fn (.func g) []] (fun p=>p=XD (l.map F)) :=
  Xa3 (Xsb g F l hl hE) fun p H h=>XeN.conv (fun x _=>Xbv x) (XF Xaq (l.map F)) h
set_option maxHeartbeats 16000000 in
theorem Xqd (g:Nat) (F:Cell→Cell) (l:List Cell) (hl:l.length≤1000000) (hE:∀ x ∈ l,Iso Tryz.prog g [.agg (XA x)] (fun p=>p=.agg (XA (F x)))) :
    AC Tryz.prog 145 [XaE XA 7 l,.fn (.func g) []] [] (XeN ((l.map F).flatMap XA) 96 (l.map F).length 7):=by
  have hG:=Xd
  refine Xv Tryz.func145 rfl rfl rfl ?_
  repeat(first|refine Zes ?_)
  refine X1 5 96 7 hG rfl ?_
  intro o G hG
  have hml:(l.map F).length=l.length:=List.length_map _
  rw [hml]
  refine Xg (S:=Nat × Nat) (fun s=>[(1,.fn (.func g) []),(5,.sl s.2 0 s.1 7),(8,XaE XA 7 l),(9,I l.length),(10,I s.1)]) (fun s G=>s.1≤l.length∧Has G [(s.2,⟨((l.map F).take s.1).flatMap XA,96,true⟩)]) (fun s=>l.length - s.1) (0,o)
    (.cons rfl (.cons rfl (.cons rfl (.cons rfl (.cons rfl (.nil _)))))) ⟨Nat.zero_le _,hG⟩ ?_
  clear hG
  rintro ⟨i,o⟩ G ⟨hi,hG⟩
  dsimp only at hi hG ⊢
  by_cases hil:i < l.length
  · obtain ⟨x,hx⟩:∃ x,l[i]?=some x:=⟨_,List.getElem?_eq_getElem hil⟩
    have hEx:=hE x (List.mem_of_getElem? hx)
    have hm:(l.map F)[i]?=some (F x):=by rw [List.getElem?_map,hx];rfl
    have htk:=Xdd XA (l.map F) i (F x) hm
    have ho:=Xp Xai l i x hx
    have tx:∀ c ∈ XA x,Xk c:=Xbn x
    generalize F x=y at hEx htk
    have oy:=Xmz y
    have hn:=XF Xai ((l.map F).take i)
    rw [List.length_take,hml,Nat.min_eq_left hi] at hn
    generalize ((l.map F).take i).flatMap XA=a at htk hn hG
    obtain ⟨d,h,c⟩:=x
    obtain ⟨d2,h2,c2⟩:=y
    rw [XW] at tx hEx htk oy ho
    rw [XW] at hEx
    clear hE hm
    repeat(first|refine Zes ?_|refine ZJ ?_|refine Xn rfl rfl (by decide) (Xc (cells:=l.flatMap XA) rfl rfl rfl (by omega) (by exact ho)) ?_|(refine Zbq ?_;rintro _ rfl)|(refine ZdN ?_;intro o2 G hG)|(refine Zz ?_;intro G hG)|(refine ZI ?_;intro id G hG)|(refine ZO ?_;intro id G hG))
    have hG:=XbU hG.tail.tail htk.symm
    exact Zbr
  · have ei:i=l.length:=by omega
    subst ei
    rw [← hml,List.take_length] at hG
    repeat(first|refine Zes ?_)
    exact Zbs
theorem Xjg (g:Nat) (F:Cell→Cell) (l:List Cell) (hl:l.length≤1000000) (hE:∀ x ∈ l,Iso Tryz.prog g [.agg (XA x)] (fun p=>p=.agg (XA (F x)))) :
    Iso Tryz.prog 145 [Xak l,.fn (.func g) []] (fun p=>p=Xak (l.map F)) :=
  Xa3 (Xqd g F l hl hE) fun p H h=>XeN.conv (fun x _=>Xbn x) (XF Xai (l.map F)) h
noncomputable def XnM (y x:Item):Bool:=match y,x with
  | .mk k _ _ _ h _ _,.mk k2 _ _ _ h2 _ _=>if k2=1 then (if k=1 then eqv h h2 else false) else false
def XnL (y x:Item):Item:=match y,x with
  | .mk k c i t h f r,.mk _ _ _ t2 _ _ _=>.mk k c i (t++t2) h f r
noncomputable def XiM (out:List Item) (x:Item):List Item:=match out.getLast? with
  | none=>out++[x]
  | some y=>if XnM y x=true then out.dropLast++[XnL y x] else out++[x]
noncomputable def XcX (out:List Item):List Item→List Item
  | []=>out
  | x::l=>XcX (XiM out x) l
mutual
noncomputable def Xj8:Item→Item
  | .mk k c i t h f r=>.mk k c i t h (XcX [] (XeE f)) (XeH r)
noncomputable def XeE:List Item→List Item
  | []=>[]
  | x::l=>Xj8 x::XeE l
noncomputable def XeH:List Row→List Row
  | []=>[]
  | .mk h c::l=>.mk h (Xd1 c)::XeH l
noncomputable def Xd1:List Cell→List Cell
  | []=>[]
  | .mk i h f::l=>.mk i h (XcX [] (XeE f))::Xd1 l
end
noncomputable def Xcj (l:List Item):List Item:=XcX [] (XeE l)
noncomputable def XhD:Row→Row
  | .mk h c=>.mk h (Xd1 c)
noncomputable def XnA:Cell→Cell
  | .mk i h f=>.mk i h (Xcj f)
theorem Xj7:∀ l,XeH l=l.map XhD
  | []=>rfl
  | .mk h c::l=>by rw [XeH,Xj7 l];rfl
theorem XgI:∀ l,Xd1 l=l.map XnA
  | []=>rfl
  | .mk i h f::l=>by rw [Xd1,XgI l];rfl
theorem XmA:∀ l,XeE l=l.map Xj8
  | []=>rfl
  | x::l=>by rw [XeE,XmA l];rfl
mutual
def XpH:Item→Prop
  | .mk k _ _ t _ f r=>(k=7→r≠[])∧(k=1→t.size≠0)∧XbV f∧Xd6 r
def XbV:List Item→Prop
  | []=>True
  | x::l=>XpH x∧XbV l
def Xd6:List Row→Prop
  | []=>True
  | .mk _ c::l=>c≠[]∧XeJ c∧Xd6 l
def XeJ:List Cell→Prop
  | []=>True
  | .mk _ _ f::l=>XbV f∧XeJ l
end
theorem Xid:∀ {l:List Item} {x:Item},XbV l→x ∈ l→XpH x
  | y::l,x,h,hx=>by
    rw [XbV] at h
    rcases List.mem_cons.1 hx with e | hx
    · rw [e];exact h.1
    · exact Xid h.2 hx
theorem XfH:∀ {l:List Row} {h:Head} {c:List Cell},Xd6 l→.mk h c ∈ l→c≠[]∧XeJ c
  | .mk h0 c0::l,h,c,hf,hx=>by
    rw [Xd6] at hf
    rcases List.mem_cons.1 hx with e | hx
    · injection e with _ e;rw [e];exact ⟨hf.1,hf.2.1⟩
    · exact XfH hf.2.2 hx
theorem Xie:∀ {l:List Cell} {i:Int} {h:Head} {f:List Item},XeJ l→.mk i h f ∈ l→XbV f
  | .mk i0 h0 f0::l,i,h,f,hf,hx=>by
    rw [XeJ] at hf
    rcases List.mem_cons.1 hx with e | hx
    · injection e with _ _ e;rw [e];exact hf.1
    · exact Xie hf.2 hx
abbrev NmI (l:List Item):Prop:=Xw l≤300→XbV l→Iso Tryz.prog 32 [Xh l] (fun p=>p=Xh (Xcj l))
set_option maxHeartbeats 16000000 in
theorem Xka (i:Int) (h:Head) (f:List Item) (hh:HBd h) (hf:Iso Tryz.prog 32 [Xh f] (fun p=>p=Xh (Xcj f))):Iso Tryz.prog 146 [.agg (XA (.mk i h f))] (fun p=>p=.agg (XA (XnA (.mk i h f)))):=by
  have hh:=Xal h hh
  rw [XnA,XW,XW]
  generalize Xcj f=f' at hf
  have hG:=Xd
  refine Xb Tryz.func146 rfl rfl rfl ?_
  repeat(first|refine Zev ?_|(refine ZI ?_;intro id G hG)|(refine ZH ?_;intro id G hG))
  rename_i ib _ _
  have hG:=hG.perm (List.Perm.swap _ _ _)
  repeat refine Xaf ?_
  refine Xz (C:=⟨[I i,Xf h.props,I h.ins,I h.move,Xm h.dels,Xl h.lyrs,Xh f],96,true⟩) 1 hG rfl ?_
  clear hG
  intro G hG
  obtain ⟨H1,e1⟩:∃ X,X=G.set id (some ⟨[I i,Xf h.props,I h.ins,I h.move,Xm h.dels,Xl h.lyrs,Xh f'],96,true⟩):=⟨_,rfl⟩
  have hG1:=hG.set (k:=0) rfl ⟨[I i,Xf h.props,I h.ins,I h.move,Xm h.dels,Xl h.lyrs,Xh f'],96,true⟩
  rw [← e1] at hG1
  refine Zaa ?_
  repeat(first|refine Zbt ?_|refine Zcu ?_|refine Zbb ?_|refine Zex ?_)
  have hG:=hG1
  repeat(first|refine Zf ?_)
  exact Zdu
set_option maxHeartbeats 16000000 in
theorem Xli (h:Head) (cs:List Cell) (hh:HBd h) (hf:Iso Tryz.prog 145 [Xak cs,.fn (.func 146) []] (fun p=>p=Xak (cs.map XnA))):Iso Tryz.prog 84 [.agg (XT (.mk h cs))] (fun p=>p=.agg (XT (XhD (.mk h cs)))):=by
  have hh:=Xal h hh
  rw [XhD,X0,X0,XgI]
  generalize cs.map XnA=cs' at hf
  have hG:=Xd
  refine Xb Tryz.func84 rfl rfl rfl ?_
  repeat(first|refine Zev ?_|(refine ZI ?_;intro id G hG)|(refine ZH ?_;intro id G hG))
  rename_i ib _ _
  have hG:=hG.perm (List.Perm.swap _ _ _)
  repeat refine Xaf ?_
  refine Xz (C:=⟨[Xf h.props,I h.ins,I h.move,Xm h.dels,Xl h.lyrs,Xak cs],94,true⟩) 1 hG rfl ?_
  clear hG
  intro G hG
  obtain ⟨H1,e1⟩:∃ X,X=G.set id (some ⟨[Xf h.props,I h.ins,I h.move,Xm h.dels,Xl h.lyrs,Xak cs'],94,true⟩):=⟨_,rfl⟩
  have hG1:=hG.set (k:=0) rfl ⟨[Xf h.props,I h.ins,I h.move,Xm h.dels,Xl h.lyrs,Xak cs'],94,true⟩
  rw [← e1] at hG1
  refine Zaa ?_
  repeat(first|refine Zbt ?_|refine Zdv ?_|refine Zbb ?_|refine Zex ?_)
  have hG:=hG1
  repeat(first|refine Zf ?_)
  exact Zdw
theorem Xlj (x:Row):Iso Tryz.prog 85 [.agg (XT x)] (fun p=>p=B (match x with | .mk _ cs=>decide ((cs.length:Int)=0))):=by
  obtain ⟨h,cs⟩:=x
  rw [X0]
  have hG:=Xd
  refine Xb Tryz.func85 rfl rfl rfl ?_
  repeat(first|refine Zev ?_|refine Z7 ?_|refine Zv ?_|(refine ZH ?_;intro id G hG))
  exact ZB
set_option maxHeartbeats 16000000 in
theorem XnT (l:List Row) (hl:l.length≤1000000) (hc:∀ h cs,Row.mk h cs ∈ l→cs≠[]):Iso Tryz.prog 144 [XD l,.fn (.func 85) []] (fun p=>p=I (-1)):=by
  have hG:=Xd
  refine Xb Tryz.func144 rfl rfl rfl ?_
  repeat(first|refine Zes ?_)
  refine Xg (S:=Nat) (fun i=>[(0,XD l),(1,.fn (.func 85) []),(7,I l.length),(8,I i)]) (fun i G=>i≤l.length∧Has G []) (fun i=>l.length - i) 0
    (.cons rfl (.cons rfl (.cons rfl (.cons rfl (.nil _))))) ⟨Nat.zero_le _,hG⟩ ?_
  clear hG
  rintro i G ⟨hi,hG⟩
  by_cases hil:i < l.length
  · obtain ⟨x,hx⟩:∃ x,l[i]?=some x:=⟨_,List.getElem?_eq_getElem hil⟩
    have hk:=Xlj x
    have ho:=Xp Xaq l i x hx
    have hcx:=hc
    obtain ⟨h,cs⟩:=x
    have hcs:=hc h cs (List.mem_of_getElem? hx)
    have tx:=Xbv (.mk h cs)
    have hcl:cs.length≠0:=by simpa using hcs
    have hdc:decide ((cs.length:Int)=0)=false:=decide_eq_false (by omega)
    dsimp only at hk
    rw [hdc] at hk
    rw [X0] at hk ho tx
    repeat(first|refine Zes ?_|refine ZcL ?_|(refine Xr rfl rfl rfl rfl rfl rfl (by decide) hk (TreeL.cons (Xk.agg tx) TreeL.nil) ?_;rintro _ rfl))
    exact Zcw
  repeat(first|refine Zes ?_)
  exact ZB
theorem XlP (l:List Row) (hl:l.length≤1000000) (hc:∀ h cs,Row.mk h cs ∈ l→cs≠[]):Iso Tryz.prog 82 [XD l,.fn (.func 85) []] (fun p=>p=XD l):=by
  have hG:=Xd
  have hk:=XnT l hl hc
  have tk:∀ c ∈ [XD l,.fn (.func 85) []],Xk c:=TreeL.cons (Xca _) (TreeL.cons (Xk.fn Xs) TreeL.nil)
  refine Xb Tryz.func82 rfl rfl rfl ?_
  repeat(first|refine Zes ?_|(refine Zb2 ?_;rintro _ rfl))
  exact XI rfl rfl (.refl _) (Xca _) rfl
end Go.Proofs.YtlcphjcpoinolaaGreat
