/- Part of the proof: the walk over the program and its laws: Pm. -/
import Derived.Test.YtlcphjcpoinolaaGreatP0
import Derived.Test.YtlcphjcpoinolaaGreatP39
import Derived.Test.YtlcphjcpoinolaaGreatP2
import Derived.Test.YtlcphjcpoinolaaGreatP13
set_option linter.unusedVariables false
namespace Go.Proofs.YtlcphjcpoinolaaGreat
open Go.RowKit Go.Th
set_option maxRecDepth 20000
mutual
def hdI (A:Head→Prop):Item→Prop
  | .mk _ _ _ _ h f r=>A h∧Xcw A f∧XkW A r
def Xcw (A:Head→Prop):List Item→Prop
  | []=>True
  | x::l=>hdI A x∧Xcw A l
def XkW (A:Head→Prop):List Row→Prop
  | []=>True
  | .mk h c::l=>A h∧XmJ A c∧XkW A l
def XmJ (A:Head→Prop):List Cell→Prop
  | []=>True
  | .mk _ h f::l=>A h∧Xcw A f∧XmJ A l
end
section
variable {σ:Type} {J:σ→Prop} {L:σ→List (Nat × Blk)} {g:FuncId} {cap:List PV} {A:Head→Prop} (hA:∀ h,A h→Xog J L g cap h)
include hA
mutual
theorem XuR:∀ (x:Item),XbG x≤300→hdI A x→ItmC J L g cap x
  | .mk k c i t h f r,hc,hh=>by
    rw [XbG] at hc
    rw [hdI] at hh
    have h1:=XaK f
    have h2:=XbM r
    have e1:=Xi0 J L g cap f (by omega) (Xgl f (by omega) hh.2.1)
    have e2:=XjU r (by omega) hh.2.2
    exact ⟨fun k' c' i' t' h' f' r' e=>by
      injection e with _ _ _ _ a b d
      subst a;subst b;subst d
      exact ⟨hA _ hh.1,e1,by omega,e2⟩⟩
theorem Xgl:∀ (l:List Item),Xw l≤300→Xcw A l→∀ x ∈ l,ItmC J L g cap x
  | [],_,_=>fun x h=>by have _i:=hA;simp at h
  | x::l,hc,hh=>by
    have _i:=hA
    rw [Xw] at hc
    rw [Xcw] at hh
    intro y hy
    rcases List.mem_cons.1 hy with e | hy
    · rw [e];exact XuR x (by omega) hh.1
    · exact Xgl l (by omega) hh.2 y hy
theorem XjU:∀ (l:List Row),Xas l≤300→XkW A l→∀ x ∈ l,RowC J L g cap x
  | [],_,_=>fun x h=>by simp at h
  | .mk h0 cs0::l,hc,hh=>by
    rw [Xas,Xeg] at hc
    rw [XkW] at hh
    have h1:=XbN cs0
    have h2:=Xir cs0 (by omega) hh.2.1
    intro y hy
    rcases List.mem_cons.1 hy with e1 | hy
    · rw [e1]
      exact ⟨fun h cs e=>by
        injection e with a b
        subst a;subst b
        exact ⟨hA _ hh.1,by omega,h2⟩⟩
    · exact XjU l (by omega) hh.2.2 y hy
theorem Xir:∀ (l:List Cell),XaM l≤300→XmJ A l→∀ y ∈ l,∀ i h f,y=.mk i h f→Xog J L g cap h∧XkQ J L g cap f
  | [],_,_=>fun x h=>by simp at h
  | .mk i0 h0 f0::l,hc,hh=>by
    rw [XaM,XdR] at hc
    rw [XmJ] at hh
    have h1:=XaK f0
    have h2:=Xgl f0 (by omega) hh.2.1
    intro y hy i h f e
    rcases List.mem_cons.1 hy with e1 | hy
    · rw [e1] at e
      injection e with a b d
      subst b;subst d
      exact ⟨hA _ hh.1,Xi0 J L g cap f0 (by omega) h2⟩
    · exact Xir l (by omega) hh.2.2 y hy i h f e
end
theorem XpB (l:List Item) (hc:Xw l≤300) (hh:Xcw A l):XkQ J L g cap l:=Xi0 J L g cap l (by have:=XaK l;omega) (Xgl hA l hc hh)
end
def XcU (h:Head):Prop:=h.ins=0∧h.dels=[]∧h.lyrs=[]
def XoK (b:Bool):XbA Int:=if b then [(0,B true,0)] else []
def XoJ (b:Bool):Nat:=if b then 1 else 0
theorem Xq7 (b:Bool):Xf8 (XoK b) (XoJ b) 0 (B true)=XoK true∧Xf9 (XoK b) (XoJ b) 0=XoJ true:=by
  cases b <;> exact ⟨rfl,rfl⟩
set_option maxHeartbeats 16000000 in
theorem Xmj (im:Nat) (h:Head) (hh:XcU h):Xog (fun _:Bool=>True) (fun b=>[(im,XU kyI (XoK b) (XoJ b))]) 120 [.ept [.mp im] 0] h:=by
  obtain ⟨h1,h2,h3⟩:=hh
  obtain ⟨ps,ins,mv,ds,ls⟩:=h
  dsimp only at h1 h2 h3
  subst h1;subst h2;subst h3
  intro b G K _ hG
  have hG:Has G ((im,XU kyI (XoK b) (XoJ b))::K):=hG
  obtain ⟨u1,u2⟩:=Xq7 b
  refine Xv Tryz.func120 rfl rfl rfl ?_
  refine Zc ?_
  refine Zb ?_
  repeat(first|(refine ZH ?_;intro id G hG))
  refine Za ?_
  refine Xz 2 hG rfl ?_
  clear hG
  intro G hG
  repeat(first|refine Zes ?_|(refine XiB (XcN .i64) 0 hG rfl rfl rfl rfl rfl rfl rfl ?_;intro G hG))
  have hG:Has G ((im,XU kyI (XoK true) (XoJ true))::K):=by rw [← u1,← u2];exact hG
  clear u1 u2
  refine Xg (S:=Unit) (fun _=>[(2,.ept (XL ⟨ps,0,mv,[],[]⟩) 0),(14,I 0),(15,I 0)]) (fun _ G=>Has G ((im,XU kyI (XoK true) (XoJ true))::K)) (fun _=>0) ()
    (.cons rfl (.cons rfl (.cons rfl (.nil _)))) hG ?_
  clear hG
  rintro _ G hG
  repeat(first|refine Zes ?_)
  refine Xg (S:=Unit) (fun _=>[(26,I 0),(27,I 0)]) (fun _ G=>Has G ((im,XU kyI (XoK true) (XoJ true))::K)) (fun _=>0) ()
    (.cons rfl (.cons rfl (.nil _))) hG ?_
  clear hG
  rintro _ G hG
  repeat(first|refine Zes ?_|refine XbB ?_|refine Xbh ?_)
  exact Xbr rfl (.inl rfl) ⟨rfl,true,trivial,hG⟩
theorem Xci:Xk XaQ:=Xk.v _
theorem XnS:Iso Tryz.prog 218 [XaQ,I 0,I 0] (fun p=>p=.tup []):=by
  have hG:=Xd
  refine Xb Tryz.func218 rfl rfl rfl ?_
  repeat(first|refine Zes ?_)
  refine Xg (S:=Unit) (fun _=>[(0,XaQ),(1,I 0),(2,I 0),(6,I 1)]) (fun _ G=>Has G []) (fun _=>0) ()
    (.cons rfl (.cons rfl (.cons rfl (.cons rfl (.nil _))))) hG ?_
  clear hG
  rintro _ G hG
  repeat(first|refine Zes ?_|refine XbB ?_|refine Xbh ?_)
  exact Xle rfl (.inl rfl) rfl
theorem XuD (k:Int):Iso Tryz.prog 205 [XaQ,I 0,I 0,I k] (fun p=>p=.tup []):=by
  have hG:=Xd
  refine Xb Tryz.func205 rfl rfl rfl ?_
  repeat(first|refine Zes ?_)
  refine Xg (S:=Unit) (fun _=>[(0,XaQ),(1,I 0),(2,I 0),(3,I k)]) (fun _ G=>Has G []) (fun _=>0) ()
    (.cons rfl (.cons rfl (.cons rfl (.cons rfl (.nil _))))) hG ?_
  clear hG
  rintro _ G hG
  repeat(first|refine Zes ?_|(refine Xr rfl rfl rfl rfl rfl rfl (by decide) XnS (TreeL.cons Xci (TreeL.cons (Xe _) (TreeL.cons (Xe _) TreeL.nil))) ?_;rintro _ rfl)|refine Zbp ?_)
  exact Xle rfl (.inr rfl) rfl
theorem XuO:Iso Tryz.prog 227 [.v (.int .u64 0)] (fun p=>p=I 0):=by
  have hG:=Xd
  refine Xb Tryz.func227 rfl rfl rfl ?_
  repeat(first|refine Zes ?_|refine Xn rfl rfl (by decide) (XaS (b:=0) rfl rfl rfl) ?_)
  refine Xn rfl rfl (by decide) (Xb1 0 rfl rfl rfl (by decide +kernel) (by decide +kernel)) ?_
  repeat(first|refine Zes ?_|refine Xn rfl rfl (by decide) (XaS (b:=0) rfl rfl rfl) ?_)
  exact ZB
theorem XBv:Iso Tryz.prog 206 [.v (.int .u64 0)] (fun p=>p=I 0):=by
  have hG:=Xd
  refine Xb Tryz.func206 rfl rfl rfl ?_
  repeat(first|refine Zes ?_|refine Zaz ?_|(refine Xr rfl rfl rfl rfl rfl rfl (by decide) XuO (TreeL.cons (Xk.v _) TreeL.nil) ?_;rintro _ rfl))
  exact ZB
theorem Xq3:Iso Tryz.prog 184 [XaQ] (fun p=>p=.tup []):=by
  have hG:=Xd
  refine Xb Tryz.func184 rfl rfl rfl ?_
  repeat(first|refine Zes ?_|refine ZJ ?_|refine Xn rfl rfl (by decide) (XaS rfl rfl rfl) ?_|(refine Xr rfl rfl rfl rfl rfl rfl (by decide) XBv (TreeL.cons (Xk.v _) TreeL.nil) ?_;rintro _ rfl)|(refine Xr rfl rfl rfl rfl rfl rfl (by decide) (XuD 0) (TreeL.cons Xci (TreeL.cons (Xe _) (TreeL.cons (Xe _) (TreeL.cons (Xe _) TreeL.nil)))) ?_;rintro _ rfl))
  exact Xle rfl (.inl rfl) rfl
theorem XrS (im c:Nat):XBQ Tryz.prog 185 [.ept [.mp im] 0] [(im,XU kyI [] c)] [(im,XU kyI [] c)] [] False:=by
  intro lid S J X L hcut hy s G K h0 hG0
  have hG:Has G ((im,XU kyI [] c)::(L s++K)):=hG0.swapL
  clear hG0
  refine Xv Tryz.func185 rfl rfl rfl ?_
  repeat(first|refine Zes ?_|(refine Xm9 0 hG rfl rfl (by decide) rfl rfl rfl ?_;intro it G hG))
  refine Xg (S:=Unit) (fun _=>[(5,.it it)]) (fun _ G=>Has G ((it,XiV im c)::(im,XU kyI [] c)::(L s++K))) (fun _=>0) ()
    (.cons rfl (.nil _)) hG ?_
  clear hG
  rintro _ G hG
  repeat(first|refine Zes ?_|refine Xn rfl rfl (by decide) (XqD rfl rfl (hG.get 0 _ _ rfl) (hG.get 1 _ _ rfl)) ?_|refine Z8 ?_|refine XbB ?_|refine Xbh ?_)
  exact Xbr rfl (.inl rfl) ⟨s,hG.tail.swapL (A:=[(im,XU kyI [] c)]),.inl h0⟩
theorem Xjt (im c:Nat) (K:List (Nat × Blk)) (G:Xi) (hG:Has G ((im,XU kyI [] c)::K)):AC Tryz.prog 204 [XaQ,.fn (.func 185) [.ept [.mp im] 0]] G (fun p G'=>p=XaQ∧Has G' ((im,XU kyI [] c)::K)):=by
  refine Xv Tryz.func204 rfl rfl rfl ?_
  repeat(first|refine Zes ?_|(refine ZH ?_;intro id G hG))
  refine XjG (S:=Unit) (xs:=[]) (C:=[(im,XU kyI [] c)]) (C':=[(im,XU kyI [] c)]) (K:=K) (cut:=False)
    (L:=fun _=>[(id,⟨[XaQ],57,true⟩)]) (I:=fun _ _=>True) (X:=fun _ _=>False) rfl (XrS im c) (fun h=>h.elim) (fun a h=>by simp at h) (by decide) () trivial hG ?_ ?_ ?_
  · rintro j args s G K' hj
    simp at hj
  · rintro s G _ hG
    repeat(first|refine Zes ?_)
    exact XC rfl rfl ⟨rfl,hG.tail⟩
  · rintro k s G h
    exact h.elim
theorem XlR (im c:Nat) (K:List (Nat × Blk)) (G:Xi) (hG:Has G ((im,XU kyI [] c)::K)):AC Tryz.prog 183 [.fn (.func 185) [.ept [.mp im] 0]] G (fun p G'=>p=XaQ∧Has G' ((im,XU kyI [] c)::K)):=by
  refine Xv Tryz.func183 rfl rfl rfl ?_
  repeat(first|refine Zes ?_|(refine X5 rfl rfl rfl rfl rfl rfl (by decide) (Xjt im c K _ hG) ?_;rintro _ G ⟨rfl,hG⟩))
  exact Zbz
theorem Xnk (im c:Nat) (K:List (Nat × Blk)) (G:Xi) (hG:Has G ((im,XU kyI [] c)::K)):AC Tryz.prog 122 [.fn (.func 185) [.ept [.mp im] 0]] G (fun p G'=>p=XaQ∧Has G' ((im,XU kyI [] c)::K)):=by
  refine Xv Tryz.func122 rfl rfl rfl ?_
  repeat(first|refine Zes ?_|(refine X5 rfl rfl rfl rfl rfl rfl (by decide) (XlR im c K _ hG) ?_;rintro _ G ⟨rfl,hG⟩)|(refine Xr rfl rfl rfl rfl rfl rfl (by decide) Xq3 (TreeL.cons Xci TreeL.nil) ?_;rintro _ rfl))
  exact Zbz
theorem XuP (im:Nat) (L:List (Nat × Blk)) (G:Xi) (hG:Has G L):AC Tryz.prog 123 [.mp im] G (fun p G'=>p=.fn (.func 185) [.ept [.mp im] 0]∧Has G' L):=by
  refine Xv Tryz.func123 rfl rfl rfl ?_
  refine Zc ?_
  refine Zb ?_
  repeat(first|refine Zd ?_|(refine ZH ?_;intro id G hG))
  refine Za ?_
  refine ZaA ?_
  clear hG
  intro G hG
  repeat(first|refine Zes ?_|refine Zav ?_)
  exact Zbz
set_option maxHeartbeats 16000000 in
theorem Xmi (d:Doc) (hc:Xw d.flow≤300) (hh:Xcw XcU d.flow) (hf:XcU d.fin):Iso Tryz.prog 52 [.agg (X8 d)] (fun p=>p=XaQ):=by
  have hG:=Xd
  refine Xb Tryz.func52 rfl rfl rfl ?_
  refine Zc ?_
  refine Zb ?_
  repeat(first|refine Zd ?_|(refine ZH ?_;intro id G hG))
  refine Za ?_
  refine ZaA ?_
  clear hG
  intro G hG
  refine Zc ?_
  refine Zb ?_
  repeat(first|(refine XiC kyI hG rfl rfl (by decide) rfl ?_;intro im G hG)|(refine Zz ?_;intro G hG)|(refine ZI ?_;intro id G hG))
  refine Za ?_
  have hG:Has G [(id,⟨[.mp im],115,true⟩),(im,XU kyI [] 0)]:=hG
  refine Xz 3 hG rfl ?_
  clear hG
  intro G hG
  have hH:=XpB (J:=fun _:Bool=>True) (L:=fun b=>[(im,XU kyI (XoK b) (XoJ b))]) (g:=120) (cap:=[.ept [.mp im] 0]) (Xmj im) d.flow hc hh false G [] trivial hG
  repeat(first|refine Zez ?_|refine Zav ?_|(refine X5 rfl rfl rfl rfl rfl rfl (by decide) hH ?_;rintro _ G ⟨rfl,b,_,hG⟩))
  refine X5 rfl rfl rfl rfl rfl rfl (by decide) (Xmj im d.fin hf b _ [] trivial hG) ?_
  rintro _ G ⟨rfl,b,_,hG⟩
  clear hH
  have hG:Has G [(im,XU kyI (XoK b) (XoJ b))]:=hG
  have hd:Xsf (XoK b) 0=[]:=by cases b <;> rfl
  generalize XoJ b=c at hG
  repeat(first|refine Zez ?_|(refine XqT (XcN .i64) 0 hG rfl rfl rfl rfl rfl rfl ?_;intro G hG))
  have hG:Has G [(im,XU kyI [] c)]:=by rw [← hd];exact hG
  refine X5 rfl rfl rfl rfl rfl rfl (by decide) (XuP im _ _ hG) ?_
  rintro _ G ⟨rfl,hG⟩
  refine X5 rfl rfl rfl rfl rfl rfl (by decide) (Xnk im c _ _ hG) ?_
  rintro _ G ⟨rfl,hG⟩
  repeat(first|refine Zes ?_)
  exact XI rfl rfl (.refl _) Xci rfl
theorem Xj4 (d:Doc) (hc:Xw d.flow≤300) (hh:Xcw XcU d.flow) (hf:XcU d.fin) (td:∀ c ∈ X8 d,Xk c):Iso Tryz.prog 20 [.agg (X8 d)] (fun p=>p=B true):=by
  have hG:=Xd
  have hu:=Xmi d hc hh hf
  have tu:∀ c ∈ [PV.agg (X8 d)],Xk c:=TreeL.cons (Xk.agg td) TreeL.nil
  refine Xb Tryz.func20 rfl rfl rfl ?_
  repeat(first|refine Zes ?_|(refine Xr rfl rfl rfl rfl rfl rfl (by decide) hu tu ?_;rintro _ rfl)|(refine ZH ?_;intro id G hG))
  exact ZB
end Go.Proofs.YtlcphjcpoinolaaGreat
