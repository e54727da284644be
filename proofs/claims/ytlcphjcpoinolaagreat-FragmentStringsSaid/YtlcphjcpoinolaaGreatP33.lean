/- Part of the proof: the walk over the program and its laws: Nd Jf. -/
import Derived.Test.YtlcphjcpoinolaaGreatP0
import Derived.Test.YtlcphjcpoinolaaGreatP32
import Derived.Test.YtlcphjcpoinolaaGreatP26
import Derived.Test.YtlcphjcpoinolaaGreatP25
import Derived.Test.YtlcphjcpoinolaaGreatP15
set_option linter.unusedVariables false
namespace Go.Proofs.YtlcphjcpoinolaaGreat
open Go.RowKit Go.Th
set_option maxRecDepth 20000
def XcZ:Head:=⟨[],0,0,[],[]⟩
def Xcq (l:List Item) (st:List Style) (ls:List Lst):Doc:=⟨l,XcZ,[],⟨st,ls,[],[]⟩⟩
def XdO (l:List Item) (st:List Style) (ls:List Lst):List PV:=[Xk l,XL st,Xdk ls]
theorem XoY (l:List Item) (st:List Style) (ls:List Lst):WkL [Xk l,Xaw,I 0,I 0,Xaw,Xaw,Xaw,XL st,Xdk ls,Xaw,Xaw] (X3 (Xcq l st ls)) :=
  .cons (.refl _) (.cons (.nil 2) (.cons (.refl _) (.cons (.refl _) (.cons (.nil 2) (.cons (.nil 4) (.cons (.nil 3) (.cons (.refl _) (.cons (.refl _) (.cons (.nil 6) (.cons (.nil 2) .nil))))))))))
theorem Xdt (s:Sets):∀ c ∈ XaW s,Xi c:=Xa (XI _) (Xa (XaL _) (Xa (XaM _) (Xa (Xb8 _) Xp)))
theorem Xan (d:Doc):∀ c ∈ X3 d,Xi c:=Xa (XF _) (Xa (XT _) (Xa (Xe _) (Xa (Xe _) (Xa (XbL _) (Xa (XbJ _) (Xa (Xa9 _) (Xdt d.sets)))))))
set_option maxHeartbeats 8000000 in
theorem Xo5 (l:List Item) (st:List Style) (ls:List Lst):Iso Tryz.prog 18 [.agg (XdO l st ls)] (fun p=>p=.agg (X3 (Xcq l st ls))):=by
  have hG:=Xc
  refine Xb Tryz.func18 rfl rfl rfl ?_
  refine Zc ?_
  refine Zb ?_
  repeat(first|(refine ZD ?_;intro id G hG)|(refine ZI ?_;intro id G hG))
  refine Za ?_
  refine Zc ?_
  refine Zb ?_
  repeat(first|refine Zj ?_|refine Z5 ?_|refine Z3 ?_|(refine ZA ?_;intro G hG))
  refine Za ?_
  refine Xgz 0 hG rfl (XoY l st ls) ?_
  clear hG
  intro G hG
  repeat(first|refine Zf ?_)
  exact ZdG
set_option maxHeartbeats 8000000 in
theorem Xh7 (l:List Item) (st:List Style) (ls:List Lst):Iso Tryz.prog 24 [.agg (XdO l st ls)] (fun p=>p=.agg (X3 (Xcq l st ls))):=by
  have hG:=Xc
  refine Xb Tryz.func24 rfl rfl rfl ?_
  refine Zc ?_
  refine Zb ?_
  repeat(first|(refine ZD ?_;intro id G hG)|(refine ZI ?_;intro id G hG))
  refine Za ?_
  refine Zc ?_
  refine Zb ?_
  repeat(first|refine Zj ?_|refine Z5 ?_|refine Z3 ?_|(refine ZA ?_;intro G hG))
  refine Za ?_
  refine Xgz 0 hG rfl (XoY l st ls) ?_
  clear hG
  intro G hG
  repeat(first|refine Zf ?_)
  exact ZdG
set_option maxHeartbeats 16000000 in
theorem XkS (d:Doc) (hc:Xz d.flow≤300) (hh:HBd d.fin) (hr:d.revs.length≤1000000) (hs:SmS d.sets):Iso Tryz.prog 43 [.agg (X3 d)] (fun p=>p=.agg (X3 d)):=by
  have c41:=Xms d.flow hc
  have c63:=Xam d.fin hh
  have c66:=XhD d.revs hr
  have c67:=XjA d.sets hs
  have hG:=Xc
  refine Xb Tryz.func43 rfl rfl rfl ?_
  repeat(first|refine Zd3 ?_|(refine ZD ?_;intro id G hG)|(refine ZI ?_;intro id G hG))
  rename_i ib _ _
  have hG:Has G [(id,⟨_,53,true⟩),(ib,⟨X3 d,53,true⟩)]:=hG
  obtain ⟨H1,e1⟩:∃ X,X=G.set id (some ⟨X3 d,53,true⟩):=⟨_,rfl⟩
  have hG1:=hG.set (k:=0) rfl ⟨X3 d,53,true⟩
  rw [← e1] at hG1
  refine Z7 ?_
  repeat(first|refine Zbq ?_|refine Y_k rfl rfl rfl (by decide) (fun _=>Iso.K rfl rfl rfl rfl c41 (TreeL.cons (XF _) TreeL.nil)) ?_|refine Y_k rfl rfl rfl (by decide) (fun _=>Iso.K rfl rfl rfl rfl c63 (TreeL.cons (Xi.agg (Xah _)) TreeL.nil)) ?_|refine Y_k rfl rfl rfl (by decide) (fun _=>Iso.K rfl rfl rfl rfl c66 (TreeL.cons (Xa9 _) TreeL.nil)) ?_|refine Y_k rfl rfl rfl (by decide) (fun _=>Iso.K rfl rfl rfl rfl c67 (TreeL.cons (Xi.agg (Xdt _)) TreeL.nil)) ?_|refine Za6 ?_|refine Zd6 ?_)
  have hG:=hG1
  repeat(first|refine Zf ?_)
  exact XcN rfl rfl (XaR (hG.get 0 _ _ rfl)) (.refl _) (Xi.agg (Xan d)) rfl
theorem Xop (g:Nat) (cap:List PV):Iso Tryz.prog 134 [XdA [],.fn (.func g) cap] (fun p=>p=I (-1)):=by
  have hG:=Xc
  refine Xb Tryz.func134 rfl rfl rfl ?_
  repeat(first|refine Zd1 ?_)
  refine Xg (S:=Unit) (fun _=>[(7,I 0),(8,I 0)]) (fun _ G=>Has G []) (fun _=>0) ()
    (.cons rfl (.cons rfl (.nil _))) hG ?_
  clear hG
  rintro _ G hG
  repeat(first|refine Zd1 ?_)
  exact ZE
theorem Xoz (g:Nat) (cap:List PV) (hc:∀ c ∈ cap,Xi c):Iso Tryz.prog 65 [XdA [],.fn (.func g) cap] (fun p=>p=XdA []):=by
  have hG:=Xc
  have hk:=Xop g cap
  have tk:∀ c ∈ [XdA [],.fn (.func g) cap],Xi c:=TreeL.cons (Xa9 _) (TreeL.cons (Xi.fn hc) TreeL.nil)
  refine Xb Tryz.func65 rfl rfl rfl ?_
  repeat(first|refine Zd1 ?_|(refine Zam ?_;rintro _ rfl))
  exact XJ rfl rfl (.refl _) (Xa9 _) rfl
set_option maxHeartbeats 16000000 in
theorem Xjv (l:List Item) (st:List Style) (ls:List Lst) (hc:Xz l≤300) (hc2:Xz (XaF l)≤300) (hf:Xad l) (hb:XcA Xdp (XaF l)) (hs:SmS ⟨st,ls,[],[]⟩) :
    Iso Tryz.prog 23 [.agg (X3 (Xcq l st ls))] (fun p=>p=.agg (X3 (Xcq (XaF l) st ls))):=by
  have hG:=Xc
  have hn:=XfU l hc hf
  generalize XaF l=m at hn hc2 hb ⊢
  have hu:=XmZ (Xcq m st ls) hc2 hb ⟨rfl,rfl,rfl⟩
  have hcl:=XhD [] (by simp)
  have hdc:=XkS (Xcq m st ls) hc2 ⟨by simp [Xcq,XcZ],by simp [Xcq,XcZ],by simp [Xcq,XcZ]⟩ (by simp [Xcq]) hs
  have hdr:=Xoz 67 [.ept [Xaw] 0] (TreeL.cons (Xi.ept (TreeL.cons Xde TreeL.nil)) TreeL.nil)
  have t1:∀ c ∈ [Xk l],Xi c:=TreeL.cons (XF _) TreeL.nil
  have t2:∀ c ∈ [PV.agg (X3 (Xcq m st ls))],Xi c:=TreeL.cons (Xi.agg (Xan _)) TreeL.nil
  have t3:∀ c ∈ [XdA []],Xi c:=TreeL.cons (Xa9 _) TreeL.nil
  have t4:∀ c ∈ [XdA [],.fn (.func 67) [.ept [Xaw] 0]],Xi c:=TreeL.cons (Xa9 _) (TreeL.cons (Xi.fn (TreeL.cons (Xi.ept (TreeL.cons Xde TreeL.nil)) TreeL.nil)) TreeL.nil)
  refine Xb Tryz.func23 rfl rfl rfl ?_
  refine Zc ?_
  refine Zb ?_
  repeat(first|(refine ZD ?_;intro id G hG)|(refine ZI ?_;intro id G hG))
  refine Za ?_
  rename_i b1 _ _
  have hG:Has G [(id,⟨_,53,true⟩),(b1,⟨X3 (Xcq l st ls),53,true⟩)]:=hG
  refine Zc ?_
  refine Zb ?_
  repeat(first|(refine Xr rfl rfl rfl rfl rfl rfl (by decide) hn t1 ?_;rintro _ rfl)|refine Zj ?_|refine Z3 ?_|(refine Za5 ?_;intro G hG))
  refine Za ?_
  have hG:Has G [(id,⟨_,53,true⟩),(b1,⟨X3 (Xcq m st ls),53,true⟩)]:=hG
  refine Zc ?_
  refine Zb ?_
  repeat(first|(refine Xr rfl rfl rfl rfl rfl rfl (by decide) hu t2 ?_;rintro _ rfl)|refine Z3 ?_|(refine ZA ?_;intro G hG)|(refine ZD ?_;intro id G hG))
  refine Za ?_
  refine XD (C:=⟨[Xaw],57,true⟩) 3 hG rfl ?_
  clear hG
  intro G hG
  repeat(first|refine Zd1 ?_|(refine Xr rfl rfl rfl rfl rfl rfl (by decide) hcl t3 ?_;rintro _ rfl)|refine ZaH ?_|(refine Xr rfl rfl rfl rfl rfl rfl (by decide) hdr t4 ?_;rintro _ rfl)|(refine Xr rfl rfl rfl rfl rfl rfl (by decide) hdc t2 ?_;rintro _ rfl)|refine Z3 ?_|(refine ZA ?_;intro G hG)|(refine Za5 ?_;intro G hG))
  exact XcN rfl rfl (XaR (hG.get 0 _ _ rfl)) (.refl _) (Xi.agg (Xan (Xcq m st ls))) rfl
end Go.Proofs.YtlcphjcpoinolaaGreat
namespace Go.Proofs.YtlcphjcpoinolaaGreat
open Go.RowKit Go.Th
set_option maxRecDepth 20000
theorem XkK (l m:List Item) (st st2:List Style) (ls ls2:List Lst):Iso Tryz.prog 11 [.agg (XdO l st ls),.agg (XdO m st2 ls2)] (fun p=>p=B (eqv (Xcq l st ls) (Xcq m st2 ls2))):=by
  have hG:=Xc
  have h1:=Xh7 l st ls
  have h2:=Xh7 m st2 ls2
  have h3:=XkO (Xcq l st ls) (Xcq m st2 ls2)
  have tf:∀ l st ls,∀ c ∈ XdO l st ls,Xi c:=fun l st ls=>TreeL.cons (XF _) (TreeL.cons (XI _) (TreeL.cons (XaL _) TreeL.nil))
  have t1:∀ c ∈ [PV.agg (XdO l st ls)],Xi c:=TreeL.cons (Xi.agg (tf l st ls)) TreeL.nil
  have t2:∀ c ∈ [PV.agg (XdO m st2 ls2)],Xi c:=TreeL.cons (Xi.agg (tf m st2 ls2)) TreeL.nil
  have t3:∀ c ∈ [PV.agg (X3 (Xcq l st ls)),PV.agg (X3 (Xcq m st2 ls2))],Xi c:=TreeL.cons (Xi.agg (Xan _)) (TreeL.cons (Xi.agg (Xan _)) TreeL.nil)
  refine Xb Tryz.func11 rfl rfl rfl ?_
  repeat(first|refine Zd1 ?_|(refine ZI ?_;intro id G hG))
  rename_i b1 _ _
  have hG:Has G [(id,⟨XdO m st2 ls2,26,true⟩),(b1,⟨XdO l st ls,26,true⟩)]:=hG
  refine Zz ?_
  repeat(first|refine Zae ?_|refine Zah ?_|refine Y_k rfl rfl rfl (by decide) (fun _=>Iso.K rfl rfl rfl rfl h1 t1) ?_|refine Y_k rfl rfl rfl (by decide) (fun _=>Iso.K rfl rfl rfl rfl h2 t2) ?_|refine Y_k rfl rfl rfl (by decide) (fun _=>Iso.K rfl rfl rfl rfl h3 t3) ?_|refine Zd2 ?_)
  repeat(first|refine Zf ?_)
  exact Zbm
end Go.Proofs.YtlcphjcpoinolaaGreat
