/- Part of the proof: the walk over the program and its laws: Nm Nn. -/
import Derived.Test.YtlcphjcpoinolaaGreatP0
import Derived.Test.YtlcphjcpoinolaaGreatP22
import Derived.Test.YtlcphjcpoinolaaGreatP24
set_option linter.unusedVariables false
namespace Go.Proofs.YtlcphjcpoinolaaGreat
open Go.RowKit Go.Th
set_option maxRecDepth 20000
theorem XsP {P:Program} {E:Env} {H:Xh} {o:Oper} {t ty:TypeId} {x y:Operand} {a b:ByteArray} (ho:o.op=.binOp .add t x y ty) (hx:E.ev x=some (.v (.string a))) (hy:E.ev y=some (.v (.string b))) (h:a.size+b.size≤9223372036854775807) :
    OpV P o E H (.v (.string (a++b))):=Xab ho hx hy rfl rfl (fun w=>by
  have hmax:IntKind.i64.max=9223372036854775807:=rfl
  have h':¬ ((9223372036854775807:Int) < (a.size:Int)+(b.size:Int)):=by omega
  simp [eqGuard,binOp,Op.stringOp,hmax,h']) rfl
set_option maxHeartbeats 16000000 in
theorem Xso (g:Nat) (F:Row→Row) (l:List Row) (hl:l.length≤1000000) (hE:∀ x ∈ l,Iso Tryz.prog g [.agg (XS x)] (fun p=>p=.agg (XS (F x)))) :
    AC Tryz.prog 83 [XaK XS 6 l,.fn (.func g) []] [] (XeU ((l.map F).flatMap XS) 94 (l.map F).length 6):=by
  have hG:=Xc
  refine Xw Tryz.func83 rfl rfl rfl ?_
  repeat(first|refine Zd1 ?_)
  refine XQ 5 94 6 hG rfl ?_
  intro o G hG
  have hml:(l.map F).length=l.length:=List.length_map _
  rw [hml]
  refine Xg (S:=Nat × Nat) (fun s=>[(1,.fn (.func g) []),(5,.sl s.2 0 s.1 6),(8,XaK XS 6 l),(9,I l.length),(10,I s.1)]) (fun s G=>s.1≤l.length∧Has G [(s.2,⟨((l.map F).take s.1).flatMap XS,94,true⟩)]) (fun s=>l.length - s.1) (0,o)
    (.cons rfl (.cons rfl (.cons rfl (.cons rfl (.cons rfl (.nil _)))))) ⟨Nat.zero_le _,hG⟩ ?_
  clear hG
  rintro ⟨i,o⟩ G ⟨hi,hG⟩
  dsimp only at hi hG ⊢
  by_cases hil:i < l.length
  · obtain ⟨x,hx⟩:∃ x,l[i]?=some x:=⟨_,List.getElem?_eq_getElem hil⟩
    have hEx:=hE x (List.mem_of_getElem? hx)
    have hm:(l.map F)[i]?=some (F x):=by rw [List.getElem?_map,hx];rfl
    have htk:=Xdm XS (l.map F) i (F x) hm
    have ho:=Xu XaX l i x hx
    have tx:∀ c ∈ XS x,Xi c:=Xbw x
    generalize F x=y at hEx htk
    have oy:=XpC y
    have hn:=XC XaX ((l.map F).take i)
    rw [List.length_take,hml,Nat.min_eq_left hi] at hn
    generalize ((l.map F).take i).flatMap XS=a at htk hn hG
    obtain ⟨h,c⟩:=x
    obtain ⟨h2,c2⟩:=y
    rw [X2] at tx hEx htk oy ho
    rw [X2] at hEx
    clear hE hm
    repeat(first|refine Zd1 ?_|refine ZJ ?_|refine Zcx ?_|(refine Zbn ?_;rintro _ rfl)|(refine Zdt ?_;intro o2 G hG)|(refine ZA ?_;intro G hG)|(refine ZD ?_;intro id G hG)|(refine ZL ?_;intro id G hG))
    have hG:=XbV hG.tail.tail htk.symm
    exact Zbo
  · have ei:i=l.length:=by omega
    subst ei
    rw [← hml,List.take_length] at hG
    repeat(first|refine Zd1 ?_)
    exact Zbp
theorem XkQ (g:Nat) (F:Row→Row) (l:List Row) (hl:l.length≤1000000) (hE:∀ x ∈ l,Iso Tryz.prog g [.agg (XS x)] (fun p=>p=.agg (XS (F x)))) :
    Iso Tryz.prog 83 [X7 l,.fn (.func g) []] (fun p=>p=X7 (l.map F)) :=
  XaY (Xso g F l hl hE) fun p H h=>XeU.conv (fun x _=>Xbw x) (XC XaX (l.map F)) h
set_option maxHeartbeats 16000000 in
theorem XqB (g:Nat) (F:Cell→Cell) (l:List Cell) (hl:l.length≤1000000) (hE:∀ x ∈ l,Iso Tryz.prog g [.agg (XB x)] (fun p=>p=.agg (XB (F x)))) :
    AC Tryz.prog 145 [XaK XB 7 l,.fn (.func g) []] [] (XeU ((l.map F).flatMap XB) 96 (l.map F).length 7):=by
  have hG:=Xc
  refine Xw Tryz.func145 rfl rfl rfl ?_
  repeat(first|refine Zd1 ?_)
  refine XQ 5 96 7 hG rfl ?_
  intro o G hG
  have hml:(l.map F).length=l.length:=List.length_map _
  rw [hml]
  refine Xg (S:=Nat × Nat) (fun s=>[(1,.fn (.func g) []),(5,.sl s.2 0 s.1 7),(8,XaK XB 7 l),(9,I l.length),(10,I s.1)]) (fun s G=>s.1≤l.length∧Has G [(s.2,⟨((l.map F).take s.1).flatMap XB,96,true⟩)]) (fun s=>l.length - s.1) (0,o)
    (.cons rfl (.cons rfl (.cons rfl (.cons rfl (.cons rfl (.nil _)))))) ⟨Nat.zero_le _,hG⟩ ?_
  clear hG
  rintro ⟨i,o⟩ G ⟨hi,hG⟩
  dsimp only at hi hG ⊢
  by_cases hil:i < l.length
  · obtain ⟨x,hx⟩:∃ x,l[i]?=some x:=⟨_,List.getElem?_eq_getElem hil⟩
    have hEx:=hE x (List.mem_of_getElem? hx)
    have hm:(l.map F)[i]?=some (F x):=by rw [List.getElem?_map,hx];rfl
    have htk:=Xdm XB (l.map F) i (F x) hm
    have ho:=Xu XaP l i x hx
    have tx:∀ c ∈ XB x,Xi c:=Xbr x
    generalize F x=y at hEx htk
    have oy:=Xnd y
    have hn:=XC XaP ((l.map F).take i)
    rw [List.length_take,hml,Nat.min_eq_left hi] at hn
    generalize ((l.map F).take i).flatMap XB=a at htk hn hG
    obtain ⟨d,h,c⟩:=x
    obtain ⟨d2,h2,c2⟩:=y
    rw [XZ] at tx hEx htk oy ho
    rw [XZ] at hEx
    clear hE hm
    repeat(first|refine Zd1 ?_|refine ZJ ?_|refine Xj rfl rfl (by decide) (Xf (cells:=l.flatMap XB) rfl rfl rfl (by omega) (by exact ho)) ?_|(refine Zbn ?_;rintro _ rfl)|(refine Zdt ?_;intro o2 G hG)|(refine ZA ?_;intro G hG)|(refine ZD ?_;intro id G hG)|(refine ZL ?_;intro id G hG))
    have hG:=XbV hG.tail.tail htk.symm
    exact Zbo
  · have ei:i=l.length:=by omega
    subst ei
    rw [← hml,List.take_length] at hG
    repeat(first|refine Zd1 ?_)
    exact Zbp
theorem Xjt (g:Nat) (F:Cell→Cell) (l:List Cell) (hl:l.length≤1000000) (hE:∀ x ∈ l,Iso Tryz.prog g [.agg (XB x)] (fun p=>p=.agg (XB (F x)))) :
    Iso Tryz.prog 145 [Xau l,.fn (.func g) []] (fun p=>p=Xau (l.map F)) :=
  XaY (XqB g F l hl hE) fun p H h=>XeU.conv (fun x _=>Xbr x) (XC XaP (l.map F)) h
noncomputable def XcR (y x:Item):Bool:=match y,x with
  | .mk k _ _ _ h _ _,.mk k2 _ _ _ h2 _ _=>if k2=1 then (if k=1 then eqv h h2 else false) else false
def Xhc (y x:Item):Item:=match y,x with
  | .mk k c i t h f r,.mk _ _ _ t2 _ _ _=>.mk k c i (t++t2) h f r
noncomputable def Xed (out:List Item) (x:Item):List Item:=match out.getLast? with
  | none=>out++[x]
  | some y=>if XcR y x=true then out.dropLast++[Xhc y x] else out++[x]
noncomputable def X8 (out:List Item):List Item→List Item
  | []=>out
  | x::l=>X8 (Xed out x) l
mutual
noncomputable def Xd1:Item→Item
  | .mk k c i t h f r=>.mk k c i t h (X8 [] (Xb2 f)) (Xci r)
noncomputable def Xb2:List Item→List Item
  | []=>[]
  | x::l=>Xd1 x::Xb2 l
noncomputable def Xci:List Row→List Row
  | []=>[]
  | .mk h c::l=>.mk h (Xeh c)::Xci l
noncomputable def Xeh:List Cell→List Cell
  | []=>[]
  | .mk i h f::l=>.mk i h (X8 [] (Xb2 f))::Xeh l
end
noncomputable def XaF (l:List Item):List Item:=X8 [] (Xb2 l)
noncomputable def XhU:Row→Row
  | .mk h c=>.mk h (Xeh c)
noncomputable def Xn9:Cell→Cell
  | .mk i h f=>.mk i h (XaF f)
theorem Xkk:∀ l,Xci l=l.map XhU
  | []=>rfl
  | .mk h c::l=>by rw [Xci,Xkk l];rfl
theorem Xg5:∀ l,Xeh l=l.map Xn9
  | []=>rfl
  | .mk i h f::l=>by rw [Xeh,Xg5 l];rfl
theorem XdE:∀ l,Xb2 l=l.map Xd1
  | []=>rfl
  | x::l=>by rw [Xb2,XdE l];rfl
mutual
def Xf1:Item→Prop
  | .mk k _ _ t _ f r=>(k=7→r≠[])∧(k=1→t.size≠0)∧Xad f∧XbW r
def Xad:List Item→Prop
  | []=>True
  | x::l=>Xf1 x∧Xad l
def XbW:List Row→Prop
  | []=>True
  | .mk _ c::l=>c≠[]∧XeR c∧XbW l
def XeR:List Cell→Prop
  | []=>True
  | .mk _ _ f::l=>Xad f∧XeR l
end
theorem Xio:∀ {l:List Item} {x:Item},Xad l→x ∈ l→Xf1 x
  | y::l,x,h,hx=>by
    rw [Xad] at h
    rcases List.mem_cons.1 hx with e | hx
    · rw [e];exact h.1
    · exact Xio h.2 hx
theorem Xf0:∀ {l:List Row} {h:Head} {c:List Cell},XbW l→.mk h c ∈ l→c≠[]∧XeR c
  | .mk h0 c0::l,h,c,hf,hx=>by
    rw [XbW] at hf
    rcases List.mem_cons.1 hx with e | hx
    · injection e with _ e;rw [e];exact ⟨hf.1,hf.2.1⟩
    · exact Xf0 hf.2.2 hx
theorem Xip:∀ {l:List Cell} {i:Int} {h:Head} {f:List Item},XeR l→.mk i h f ∈ l→Xad f
  | .mk i0 h0 f0::l,i,h,f,hf,hx=>by
    rw [XeR] at hf
    rcases List.mem_cons.1 hx with e | hx
    · injection e with _ _ e;rw [e];exact hf.1
    · exact Xip hf.2 hx
abbrev NmI (l:List Item):Prop:=Xz l≤300→Xad l→Iso Tryz.prog 32 [Xk l] (fun p=>p=Xk (XaF l))
set_option maxHeartbeats 16000000 in
theorem Xkn (i:Int) (h:Head) (f:List Item) (hh:HBd h) (hf:Iso Tryz.prog 32 [Xk f] (fun p=>p=Xk (XaF f))):Iso Tryz.prog 146 [.agg (XB (.mk i h f))] (fun p=>p=.agg (XB (Xn9 (.mk i h f)))):=by
  have hh:=Xam h hh
  rw [Xn9,XZ,XZ]
  generalize XaF f=f' at hf
  have hG:=Xc
  refine Xb Tryz.func146 rfl rfl rfl ?_
  repeat(first|refine Zd3 ?_|(refine ZD ?_;intro id G hG)|(refine ZI ?_;intro id G hG))
  rename_i ib _ _
  have hG:=hG.perm (List.Perm.swap _ _ _)
  repeat refine X4 ?_
  refine XD (C:=⟨[I i,Xn h.props,I h.ins,I h.move,Xy h.dels,Xx h.lyrs,Xk f],96,true⟩) 1 hG rfl ?_
  clear hG
  intro G hG
  obtain ⟨H1,e1⟩:∃ X,X=G.set id (some ⟨[I i,Xn h.props,I h.ins,I h.move,Xy h.dels,Xx h.lyrs,Xk f'],96,true⟩):=⟨_,rfl⟩
  have hG1:=hG.set (k:=0) rfl ⟨[I i,Xn h.props,I h.ins,I h.move,Xy h.dels,Xx h.lyrs,Xk f'],96,true⟩
  rw [← e1] at hG1
  refine Z7 ?_
  repeat(first|refine Zbr ?_|refine Zcm ?_|refine Za6 ?_|refine Zd6 ?_)
  have hG:=hG1
  repeat(first|refine Zf ?_)
  exact Zdh
set_option maxHeartbeats 16000000 in
theorem XlG (h:Head) (cs:List Cell) (hh:HBd h) (hf:Iso Tryz.prog 145 [Xau cs,.fn (.func 146) []] (fun p=>p=Xau (cs.map Xn9))):Iso Tryz.prog 84 [.agg (XS (.mk h cs))] (fun p=>p=.agg (XS (XhU (.mk h cs)))):=by
  have hh:=Xam h hh
  rw [XhU,X2,X2,Xg5]
  generalize cs.map Xn9=cs' at hf
  have hG:=Xc
  refine Xb Tryz.func84 rfl rfl rfl ?_
  repeat(first|refine Zd3 ?_|(refine ZD ?_;intro id G hG)|(refine ZI ?_;intro id G hG))
  rename_i ib _ _
  have hG:=hG.perm (List.Perm.swap _ _ _)
  repeat refine X4 ?_
  refine XD (C:=⟨[Xn h.props,I h.ins,I h.move,Xy h.dels,Xx h.lyrs,Xau cs],94,true⟩) 1 hG rfl ?_
  clear hG
  intro G hG
  obtain ⟨H1,e1⟩:∃ X,X=G.set id (some ⟨[Xn h.props,I h.ins,I h.move,Xy h.dels,Xx h.lyrs,Xau cs'],94,true⟩):=⟨_,rfl⟩
  have hG1:=hG.set (k:=0) rfl ⟨[Xn h.props,I h.ins,I h.move,Xy h.dels,Xx h.lyrs,Xau cs'],94,true⟩
  rw [← e1] at hG1
  refine Z7 ?_
  repeat(first|refine Zbr ?_|refine Zdi ?_|refine Za6 ?_|refine Zd6 ?_)
  have hG:=hG1
  repeat(first|refine Zf ?_)
  exact Zdj
theorem XlH (x:Row):Iso Tryz.prog 85 [.agg (XS x)] (fun p=>p=B (match x with | .mk _ cs=>decide ((cs.length:Int)=0))):=by
  obtain ⟨h,cs⟩:=x
  rw [X2]
  have hG:=Xc
  refine Xb Tryz.func85 rfl rfl rfl ?_
  repeat(first|refine Zd3 ?_|refine Z8 ?_|refine Zv ?_|(refine ZI ?_;intro id G hG))
  exact ZE
set_option maxHeartbeats 16000000 in
theorem Xoo (l:List Row) (hl:l.length≤1000000) (hc:∀ h cs,Row.mk h cs ∈ l→cs≠[]):Iso Tryz.prog 144 [X7 l,.fn (.func 85) []] (fun p=>p=I (-1)):=by
  have hG:=Xc
  refine Xb Tryz.func144 rfl rfl rfl ?_
  repeat(first|refine Zd1 ?_)
  refine Xg (S:=Nat) (fun i=>[(0,X7 l),(1,.fn (.func 85) []),(7,I l.length),(8,I i)]) (fun i G=>i≤l.length∧Has G []) (fun i=>l.length - i) 0
    (.cons rfl (.cons rfl (.cons rfl (.cons rfl (.nil _))))) ⟨Nat.zero_le _,hG⟩ ?_
  clear hG
  rintro i G ⟨hi,hG⟩
  by_cases hil:i < l.length
  · obtain ⟨x,hx⟩:∃ x,l[i]?=some x:=⟨_,List.getElem?_eq_getElem hil⟩
    have hk:=XlH x
    have ho:=Xu XaX l i x hx
    have hcx:=hc
    obtain ⟨h,cs⟩:=x
    have hcs:=hc h cs (List.mem_of_getElem? hx)
    have tx:=Xbw (.mk h cs)
    have hcl:cs.length≠0:=by simpa using hcs
    have hdc:decide ((cs.length:Int)=0)=false:=decide_eq_false (by omega)
    dsimp only at hk
    rw [hdc] at hk
    rw [X2] at hk ho tx
    repeat(first|refine Zd1 ?_|refine Zcx ?_|(refine Xr rfl rfl rfl rfl rfl rfl (by decide) hk (TreeL.cons (Xi.agg tx) TreeL.nil) ?_;rintro _ rfl))
    exact ZbN
  repeat(first|refine Zd1 ?_)
  exact ZE
theorem Xmk (l:List Row) (hl:l.length≤1000000) (hc:∀ h cs,Row.mk h cs ∈ l→cs≠[]):Iso Tryz.prog 82 [X7 l,.fn (.func 85) []] (fun p=>p=X7 l):=by
  have hG:=Xc
  have hk:=Xoo l hl hc
  have tk:∀ c ∈ [X7 l,.fn (.func 85) []],Xi c:=TreeL.cons (Xb9 _) (TreeL.cons (Xi.fn Xp) TreeL.nil)
  refine Xb Tryz.func82 rfl rfl rfl ?_
  repeat(first|refine Zd1 ?_|(refine Zam ?_;rintro _ rfl))
  exact XJ rfl rfl (.refl _) (Xb9 _) rfl
end Go.Proofs.YtlcphjcpoinolaaGreat
namespace Go.Proofs.YtlcphjcpoinolaaGreat
open Go.RowKit Go.Th
set_option maxRecDepth 20000
theorem Xfn (a b:ByteArray):Xff a b=true↔a=b:=by
  unfold Xff
  rw [ByteArray.toList_eq,ByteArray.toList_eq,beq_iff_eq]
  constructor
  · intro h
    apply ByteArray.ext
    exact Array.ext' h
  · rintro rfl;rfl
def Xw3:Item→Nat
  | .mk _ _ _ t _ _ _=>t.size
def tsz:List Item→Nat
  | []=>0
  | x::l=>Xw3 x+tsz l
theorem Xm4:∀ l,tsz l≤401 * Xz l
  | []=>Nat.zero_le _
  | .mk k c i t h f r::l=>by
    have:=Xm4 l
    rw [tsz,Xw3,Xz,XbH]
    have h2:t.size < 401 * (t.size / 401+1):=by omega
    omega
theorem XiQ:∀ (a b:List Item),tsz (a++b)=tsz a+tsz b
  | [],b=>by simp [tsz]
  | x::a,b=>by rw [List.cons_append,tsz,tsz,XiQ a b];omega
theorem Xg9 {d:TypeDesc} {size k off:Nat} {A C:List PV} {q:PV} (hA:A.length=off) (h:XfV d size C k=some q):XfV d size (A++C) (off+k)=some q:=by
  subst hA
  unfold XfV at h ⊢
  rw [List.drop_length_add_append]
  exact h
theorem Xm6:∀ (cs A C:List PV) (k:Nat),X6 (A++C) (A.length+k) cs=A++X6 C k cs
  | [],A,C,k=>rfl
  | c::cs,A,C,k=>by
    have e:(A++C).set (A.length+k) c=A++C.set k c:=by
      rw [List.set_append_right _ _ (by omega)]
      congr 2;omega
    rw [X6,X6,e,Nat.add_assoc,Xm6 cs A (C.set k c) (k+1)]
theorem Xch (x:Item):Xed [] x=[x]:=rfl
theorem XaG (ys:List Item) (y x:Item):Xed (ys++[y]) x=if XcR y x=true then ys++[Xhc y x] else ys++[y]++[x]:=by
  unfold Xed
  rw [List.getLast?_concat]
  dsimp only
  rw [List.dropLast_concat]
noncomputable def XpV (out:List Item) (x:Item):Bool:=match out.getLast? with
  | none=>false
  | some y=>XcR y x
theorem XrL (out:List Item) (x:Item):Xed out x=if XpV out x=true then (match out.getLast? with | none=>[] | some y=>out.dropLast++[Xhc y x]) else out++[x]:=by
  unfold Xed XpV
  cases out.getLast? with
  | none=>rfl
  | some y=>rfl
set_option maxHeartbeats 64000000 in
theorem Xi1 (l:List Item) (hI:∀ x ∈ l,∀ k c i t h f r,x=.mk k c i t h f r→NmI f∧∀ y ∈ r,∀ h cs,y=.mk h cs→∀ z ∈ cs,∀ i hh f,z=.mk i hh f→NmI f):NmI l:=by
  intro hcost hfull
  have hll:=XaH l
  have hts:=Xm4 l
  obtain ⟨q,hq⟩:∃ q,XaF l=q:=⟨_,rfl⟩
  rw [hq]
  unfold XaF at hq
  rw [XdE] at hq
  have hG:=Xc
  refine Xb Tryz.func32 rfl rfl rfl ?_
  repeat(first|refine Zd1 ?_)
  refine XQ 3 46 11 hG rfl ?_
  intro o G hG
  refine Xg (S:=Nat × Nat × List Item) (fun s=>[(3,.sl s.2.1 0 s.2.2.length 11),(7,Xk l),(8,I l.length),(9,I s.1)])
    (fun s G=>s.1≤l.length∧s.2.2.length≤s.1∧tsz s.2.2+tsz (l.drop s.1)≤401 * 300∧X8 s.2.2 ((l.drop s.1).map Xd1)=q∧Has G [(s.2.1,⟨s.2.2.flatMap Xl,46,true⟩)]) (fun s=>l.length - s.1) (0,o,[])
    (.cons rfl (.cons rfl (.cons rfl (.cons rfl (.nil _))))) ⟨Nat.zero_le _,Nat.le_refl _,by simp only [List.drop_zero,tsz];omega,hq,hG⟩ ?_
  clear hG hq
  rintro ⟨i,o,out⟩ G ⟨hi,hol,hz,hf,hG⟩
  dsimp only at hi hol hz hf hG ⊢
  by_cases hil:i < l.length
  rotate_left
  · rw [List.drop_eq_nil_of_le (by omega),List.map_nil,X8] at hf
    subst hf
    have hn:=XC XU out
    repeat(first|refine Zd1 ?_)
    exact XJ rfl rfl (Conv.own hG (k:=0) rfl hn) (XF out) rfl
  obtain ⟨x,hx⟩:∃ x,l[i]?=some x:=⟨_,List.getElem?_eq_getElem hil⟩
  have ho:=Xu XU l i x hx
  have hxm:=List.mem_of_getElem? hx
  have hIx:=hI x hxm
  have hxc:=XcC hxm
  have hxf:=Xio hfull hxm
  rw [Xak hx,List.map_cons,X8] at hf
  rw [Xak hx,tsz] at hz
  clear hI hfull
  obtain ⟨k,c,d,t,h,f,r⟩:=x
  obtain ⟨hf1,hf2⟩:=hIx _ _ _ _ _ _ _ rfl
  rw [XbH] at hxc
  rw [Xf1] at hxf
  obtain ⟨n7,n1,nf,nr⟩:=hxf
  rw [XK] at ho
  rw [Xw3] at hz
  have hhd:=Xam h (HBd.of (by omega))
  have hnf:=hf1 (by omega) nf
  have hrl:=Xcf r
  have hnr:Iso Tryz.prog 83 [X7 r,.fn (.func 84) []] (fun p=>p=X7 (r.map XhU)):=by
    refine XkQ 84 XhU r (by omega) fun y hy=>?_
    obtain ⟨h2,cs⟩:=y
    have hyc:=XcB hy
    rw [XfA] at hyc
    have hcl:=Xcg cs
    refine XlG h2 cs (HBd.of (by omega)) (Xjt 146 Xn9 cs (by omega) fun z hz=>?_)
    obtain ⟨i3,h3,f3⟩:=z
    have hzc:=XcE hz
    rw [XfB] at hzc
    exact Xkn i3 h3 f3 (HBd.of (by omega)) (hf2 _ hy _ _ rfl _ hz _ _ _ rfl (by omega) (Xip (Xf0 nr hy).2 hz))
  have hdr:Iso Tryz.prog 82 [X7 (r.map XhU),.fn (.func 85) []] (fun p=>p=X7 (r.map XhU)):=by
    refine Xmk _ (by rw [List.length_map];omega) fun h2 cs hm=>?_
    obtain ⟨y,hy,e⟩:=List.mem_map.1 hm
    obtain ⟨h3,cs3⟩:=y
    rw [XhU] at e
    injection e with _ e
    have:=(Xf0 nr hy).1
    rw [← e,Xg5]
    simpa using this
  have hr7:k=7→(r.map XhU).length≠0:=fun e=>by
    have:=n7 e
    simpa using this
  rw [Xd1,Xkk] at hf
  have hnfe:X8 [] (Xb2 f)=XaF f:=rfl
  rw [hnfe] at hf
  generalize r.map XhU=r' at hnr hdr hf hr7
  generalize XaF f=f' at hnf hf
  clear hf1 hf2 n7 nf nr hnfe hIx hx hxm
  have th:∀ c ∈ [PV.agg (XN h)],Xi c:=TreeL.cons (Xi.agg (Xah _)) TreeL.nil
  have tf:∀ c ∈ [Xk f],Xi c:=TreeL.cons (XF _) TreeL.nil
  have tr1:∀ c ∈ [X7 r,.fn (.func 84) []],Xi c:=TreeL.cons (Xb9 _) (TreeL.cons (Xi.fn Xp) TreeL.nil)
  have tr2:∀ c ∈ [X7 r',.fn (.func 85) []],Xi c:=TreeL.cons (Xb9 _) (TreeL.cons (Xi.fn Xp) TreeL.nil)
  repeat(first|refine Zd7 ?_)
  refine Zh ?_
  repeat(first|refine Zd7 ?_|refine ZbU ?_|(refine Zcy ?_;rintro _ rfl)|(refine Xr rfl rfl rfl rfl rfl rfl (by decide) hnf tf ?_;rintro _ rfl)|(refine Xr rfl rfl rfl rfl rfl rfl (by decide) hnr tr1 ?_;rintro _ rfl)|(refine Xr rfl rfl rfl rfl rfl rfl (by decide) hdr tr2 ?_;rintro _ rfl)|refine Zv ?_|(refine ZA ?_;intro G hG)|(refine ZD ?_;intro id G hG))
  refine XD (C:=⟨[I k,I c,I d,S t,Xn h.props,I h.ins,I h.move,Xy h.dels,Xx h.lyrs,Xk f',X7 r'],46,true⟩) 5 hG rfl ?_
  clear hG hhd hnf hnr hdr th tf tr1 tr2
  intro G hG
  refine Zh ?_
  refine Zc ?_
  refine Xcw (S:=Unit) (fun _=>[(3,.sl o 0 out.length 11),(5,.ept [I k,I c,I d,S t,Xn h.props,I h.ins,I h.move,Xy h.dels,Xx h.lyrs,Xk f',X7 r'] 0),(6,I out.length),(7,Xk l),(8,I l.length),(9,I i),(32,B false)]) (fun _ G=>Has G [(o,⟨out.flatMap Xl,46,true⟩)]) ?_ ?_
  · by_cases k7:k=7
    · have hr0:=hr7 k7
      repeat(first|refine Zd1 ?_)
      exact Za2
    · by_cases k1:k=1
      · have ht0:PV.v (.bool (Xff t ByteArray.empty))=B false:=by
          have:Xff t ByteArray.empty=false:=by
            cases hb:Xff t ByteArray.empty with
            | false=>rfl
            | true =>
              exfalso
              apply n1 k1
              rw [(Xfn _ _).1 hb];rfl
          rw [this];rfl
        repeat(first|refine Zd1 ?_|refine Xj rfl rfl (by decide) (OpV.same (Xa7 rfl rfl rfl) ht0) ?_)
        exact Za2
      · repeat(first|refine Zd1 ?_)
        exact Za2
  clear hG
  rintro _ G hG
  have hl3:l.length≤300:=by omega
  clear n1 hr7 hxc hcost hll hts ho hrl
  have hpe:=XrL out (.mk k c d t h f' r')
  obtain ⟨b,hb⟩:∃ b,XpV out (.mk k c d t h f' r')=b:=⟨_,rfl⟩
  rw [hb] at hpe
  repeat(first|refine Zd7 ?_)
  refine Xcw (S:=Unit) (fun _=>[(3,.sl o 0 out.length 11),(5,.ept [I k,I c,I d,S t,Xn h.props,I h.ins,I h.move,Xy h.dels,Xx h.lyrs,Xk f',X7 r'] 0),(6,I out.length),(7,Xk l),(8,I l.length),(9,I i),(52,B b)]) (fun _ G=>Has G [(o,⟨out.flatMap Xl,46,true⟩)]) ?_ ?_
  · unfold XpV at hb
    by_cases k1:k=1
    rotate_left
    · have hb0:b=false:=by
        rw [← hb]
        cases out.getLast? with
        | none=>rfl
        | some y=>obtain ⟨ky,cy,iy,ty,hy,fy,ry⟩:=y;simp [XcR,k1]
      clear hb
      subst hb0
      refine Zz ?_
      repeat(first|refine Zd2 ?_)
      exact Za2
    rcases List.eq_nil_or_concat out with e | ⟨ys,y,e⟩
    · subst e
      have hb:false=b:=hb
      subst hb
      refine Zz ?_
      repeat(first|refine Zd2 ?_|refine Xfh (XP rfl rfl rfl rfl) rfl (by decide) rfl rfl rfl rfl (by decide) ?_)
      exact Za2
    rw [List.concat_eq_append] at e
    subst e
    rw [List.getLast?_concat] at hb
    dsimp only at hb
    obtain ⟨ky,cy,iy,ty,hy,fy,ry⟩:=y
    have hl0:=XC XU ys
    rw [List.flatMap_append,List.flatMap_cons,List.flatMap_nil,List.append_nil,XK] at hG ⊢
    simp only [List.length_append,List.length_cons,List.length_nil,Nat.zero_add] at hol ⊢
    have hm1:PV.v (.int .i64 (((ys.length+1:Nat):Int) - 1))=I (ys.length:Nat):=by
      show PV.v (.int .i64 _)=PV.v (.int .i64 _)
      congr 2;omega
    have L0:XfV (.int .i64) 1 (ys.flatMap Xl++[I ky,I cy,I iy,S ty,Xn hy.props,I hy.ins,I hy.move,Xy hy.dels,Xx hy.lyrs,Xk fy,X7 ry]) (ys.length * 11+0)=some (I ky):=Xg9 hl0 rfl
    have L4:=Xg9 (d:=.struct #[{ name:= "Props",type:=37,offset:=0,embedded:=false,tag:= "",pkgPath:= "",byteOffset:=0 },{ name:= "Marks",type:=41,offset:=1,embedded:=false,tag:= "",pkgPath:= "",byteOffset:=24 }]) (size:=5) (k:=4) (C:=[I ky,I cy,I iy,S ty,Xn hy.props,I hy.ins,I hy.move,Xy hy.dels,Xx hy.lyrs,Xk fy,X7 ry]) (q:=.agg (XN hy)) hl0 rfl
    generalize ys.flatMap Xl++[I ky,I cy,I iy,S ty,Xn hy.props,I hy.ins,I hy.move,Xy hy.dels,Xx hy.lyrs,Xk fy,X7 ry]=cells at hG L0 L4
    have hqi:Xcj (.sl o 0 (ys.length+1) 11) 11 (ys.length:Int).toNat=some (.ptr o (ys.length * 11)):=by
      simp only [Xcj,Int.toNat_natCast,Nat.zero_add]
    have hoo:(ys.length:Int) ≥ 0:=by omega
    have hE:=XeG hy h
    have tE:∀ c ∈ [PV.agg (XN hy),.agg (XN h)],Xi c:=TreeL.cons (Xi.agg (Xah _)) (TreeL.cons (Xi.agg (Xah _)) TreeL.nil)
    by_cases ky1:ky=1
    rotate_left
    · have hb0:b=false:=by
        rw [← hb];simp [XcR,ky1]
      clear hb
      subst hb0
      refine Zz ?_
      repeat(first|refine ZdD ?_|refine ZdE ?_|refine ZdF ?_|refine Zd2 ?_)
      exact Za2
    have hb2:eqv hy h=b:=by rw [← hb];simp [XcR,k1,ky1]
    rw [hb2] at hE
    clear hb hb2
    refine Zz ?_
    repeat(first|refine ZdD ?_|refine ZdE ?_|refine ZdF ?_|refine Xfh (Xm rfl rfl (hG.get 0 _ _ rfl) (by exact L4)) rfl (by decide) rfl rfl rfl rfl (by decide) ?_|refine Xty (fun _=>Iso.K rfl rfl rfl rfl hE tE) rfl (by decide) rfl rfl rfl rfl (by decide) ?_|refine Y_q rfl rfl rfl (by decide) (Xbe rfl rfl rfl rfl) ?_|refine Zd2 ?_)
    exact Za2
  clear hG
  rintro _ G hG
  cases b with
  | false =>
    rw [if_neg (by decide)] at hpe
    have hn:=XC XU out
    have hcs:out.flatMap Xl++[I k,I c,I d,S t,Xn h.props,I h.ins,I h.move,Xy h.dels,Xx h.lyrs,Xk f',X7 r']=(out++[Item.mk k c d t h f' r']).flatMap Xl:=by
      rw [List.flatMap_append,List.flatMap_cons,List.flatMap_nil,List.append_nil,XK]
    repeat(first|refine Zd1 ?_|refine ZJ ?_|(refine Zdz ?_;intro o2 G hG)|(refine ZL ?_;intro id G hG))
    have hG:=XbV hG.tail hcs
    rw [hpe] at hf
    have hlo:out.length+1=(out++[Item.mk k c d t h f' r']).length:=by simp
    exact ⟨(i+1,o2,out++[Item.mk k c d t h f' r']),by dsimp only;omega,.cons (by dsimp only;rw [← hlo];rfl) (.cons rfl (.cons rfl (.cons rfl (.nil _)))),by dsimp only;omega,by dsimp only;omega,by dsimp only;rw [XiQ,tsz,Xw3,tsz];omega,hf,hG⟩
  | true =>
    clear hpe
    rcases List.eq_nil_or_concat out with e | ⟨ys,y,e⟩
    · subst e;cases hb
    rw [List.concat_eq_append] at e
    subst e
    unfold XpV at hb
    rw [List.getLast?_concat] at hb
    dsimp only at hb
    rw [XaG,if_pos hb] at hf
    obtain ⟨ky,cy,iy,ty,hy,fy,ry⟩:=y
    have hl0:=XC XU ys
    rw [Xhc] at hf
    have hcs:ys.flatMap Xl++[I ky,I cy,I iy,S (ty++t),Xn hy.props,I hy.ins,I hy.move,Xy hy.dels,Xx hy.lyrs,Xk fy,X7 ry]=(ys++[Item.mk ky cy iy (ty++t) hy fy ry]).flatMap Xl:=by
      rw [List.flatMap_append,List.flatMap_cons,List.flatMap_nil,List.append_nil,XK]
    rw [List.flatMap_append,List.flatMap_cons,List.flatMap_nil,List.append_nil,XK] at hG
    simp only [List.length_append,List.length_cons,List.length_nil,Nat.zero_add] at hol ⊢
    simp only [XiQ,tsz,Xw3] at hz
    have hm1:PV.v (.int .i64 (((ys.length+1:Nat):Int) - 1))=I (ys.length:Nat):=by
      show PV.v (.int .i64 _)=PV.v (.int .i64 _)
      congr 2;omega
    have L3:XfV .string 1 (ys.flatMap Xl++[I ky,I cy,I iy,S ty,Xn hy.props,I hy.ins,I hy.move,Xy hy.dels,Xx hy.lyrs,Xk fy,X7 ry]) (ys.length * 11+3)=some (S ty):=Xg9 hl0 rfl
    have hset:X6 (ys.flatMap Xl++[I ky,I cy,I iy,S ty,Xn hy.props,I hy.ins,I hy.move,Xy hy.dels,Xx hy.lyrs,Xk fy,X7 ry]) (ys.length * 11+3) [S (ty++t)]=(ys++[Item.mk ky cy iy (ty++t) hy fy ry]).flatMap Xl:=by
      rw [← hcs,← hl0,Xm6];rfl
    have hble:Nat.ble (ys.length * 11+3+1) (ys.flatMap Xl++[I ky,I cy,I iy,S ty,Xn hy.props,I hy.ins,I hy.move,Xy hy.dels,Xx hy.lyrs,Xk fy,X7 ry]).length=true:=by
      rw [List.length_append,hl0]
      rw [Nat.ble_eq]
      simp
    have hqi:Xcj (.sl o 0 (ys.length+1) 11) 11 (ys.length:Int).toNat=some (.ptr o (ys.length * 11)):=by
      simp only [Xcj,Int.toNat_natCast,Nat.zero_add]
    generalize ys.flatMap Xl++[I ky,I cy,I iy,S ty,Xn hy.props,I hy.ins,I hy.move,Xy hy.dels,Xx hy.lyrs,Xk fy,X7 ry]=cells at hG L3 hset hble
    clear hcs
    have hlen:(ys++[Item.mk ky cy iy (ty++t) hy fy ry]).length=ys.length+1:=by simp
    have htz:tsz (ys++[Item.mk ky cy iy (ty++t) hy fy ry])+tsz (l.drop (i+1))≤401 * 300:=by
      simp only [XiQ,tsz,Xw3,ByteArray.size_append];omega
    obtain ⟨H1,e1⟩:∃ X,X=G.set o (some ⟨(ys++[Item.mk ky cy iy (ty++t) hy fy ry]).flatMap Xl,46,true⟩):=⟨_,rfl⟩
    have hG1:=hG.set (k:=0) rfl ⟨(ys++[Item.mk ky cy iy (ty++t) hy fy ry]).flatMap Xl,46,true⟩
    rw [← e1] at hG1
    generalize ys++[Item.mk ky cy iy (ty++t) hy fy ry]=out' at *
    repeat(first|refine Zi ?_)
    refine Z7 ?_
    repeat(first|refine Y_v rfl rfl rfl (by decide) (fun _=>OpV.same (Xfd rfl rfl rfl (by omega)) hm1) ?_|refine Y_v rfl rfl rfl (by decide) (fun _=>Xa4 rfl rfl rfl rfl (by exact hqi) (by omega)) ?_|refine Y_r 0 (by decide +kernel) (by decide +kernel) rfl rfl rfl rfl (by decide) (Xm rfl rfl (hG.get 0 _ _ rfl) (by exact L3)) ?_|refine Y_v rfl rfl rfl (by decide) (fun _=>XsP rfl rfl rfl (by omega)) ?_|refine Y_s 0 (by decide +kernel) rfl rfl rfl rfl (Xap rfl rfl rfl (hG.get 0 _ _ rfl) rfl rfl rfl (by exact hble) (by exact hset)) e1 ?_|refine Zd6 ?_)
    have hG:=hG1
    repeat(first|refine Zd1 ?_)
    exact ⟨(i+1,o,out'),by dsimp only;omega,.cons (by dsimp only;rw [hlen];rfl) (.cons rfl (.cons rfl (.cons rfl (.nil _)))),by dsimp only;omega,by dsimp only;omega,htz,hf,hG⟩
theorem Xi2:∀ (n:Nat) (l:List Item),SizeOf.sizeOf l≤n→NmI l:=by
  intro n
  induction n with
  | zero=>intro l hl;cases l <;> simp at hl <;> omega
  | succ n ih =>
    intro l hl
    refine Xi1 l fun x hx k c i t h f r e=>?_
    have hxl:=List.sizeOf_lt_of_mem hx
    subst e
    simp only [Item.mk.sizeOf_spec] at hxl
    refine ⟨ih f (by omega),?_⟩
    rintro y hy hh cs rfl z hz j hz2 g rfl
    have h1:=List.sizeOf_lt_of_mem hy
    have h2:=List.sizeOf_lt_of_mem hz
    simp only [Row.mk.sizeOf_spec] at h1
    simp only [Cell.mk.sizeOf_spec] at h2
    exact ih g (by omega)
theorem XfU (l:List Item):NmI l:=Xi2 _ l (Nat.le_refl _)
end Go.Proofs.YtlcphjcpoinolaaGreat
