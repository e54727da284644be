/- Part of the proof: the walk over the program and its laws: Nd Sc Lc. -/
import Derived.Test.YtlcphjcpoinolaaGreatP0
import Derived.Test.YtlcphjcpoinolaaGreatP36
import Derived.Test.YtlcphjcpoinolaaGreatP38
import Derived.Test.YtlcphjcpoinolaaGreatP40
import Derived.Test.YtlcphjcpoinolaaGreatP5
import Derived.Test.YtlcphjcpoinolaaGreatP4
import Derived.Test.YtlcphjcpoinolaaGreatP46
import Derived.Test.YtlcphjcpoinolaaGreatP48
import Derived.Test.YtlcphjcpoinolaaGreatP42
set_option linter.unusedVariables false
namespace Go.Proofs.YtlcphjcpoinolaaGreat
open Go.RowKit Go.Th
set_option maxRecDepth 20000
def Xlu:Head:=⟨[],0,0,[],[]⟩
def Xc5 (l:List Item) (st:List Style) (ls:List Lst):Doc:=⟨l,Xlu,[],⟨st,ls,[],[]⟩⟩
def XfM (l:List Item) (st:List Style) (ls:List Lst):List PV:=[Xh l,XN st,Xbq ls]
theorem Xow (l:List Item) (st:List Style) (ls:List Lst):WkL [Xh l,XaQ,I 0,I 0,XaQ,XaQ,XaQ,XN st,Xbq ls,XaQ,XaQ] (X8 (Xc5 l st ls)) :=
  .cons (.refl _) (.cons (.nil 2) (.cons (.refl _) (.cons (.refl _) (.cons (.nil 2) (.cons (.nil 4) (.cons (.nil 3) (.cons (.refl _) (.cons (.refl _) (.cons (.nil 6) (.cons (.nil 2) .nil))))))))))
theorem Xdl (s:Sets):∀ c ∈ XaI s,Xk c:=Xa (XS _) (Xa (XaN _) (Xa (XaO _) (Xa (Xb9 _) Xs)))
theorem Xam (d:Doc):∀ c ∈ X8 d,Xk c:=Xa (XM _) (Xa (XX _) (Xa (Xe _) (Xa (Xe _) (Xa (XbJ _) (Xa (XbI _) (Xa (Xba _) (Xdl d.sets)))))))
set_option maxHeartbeats 8000000 in
theorem XoB (l:List Item) (st:List Style) (ls:List Lst):Iso Tryz.prog 18 [.agg (XfM l st ls)] (fun p=>p=.agg (X8 (Xc5 l st ls))):=by
  have hG:=Xd
  refine Xb Tryz.func18 rfl rfl rfl ?_
  refine Zc ?_
  refine Zb ?_
  repeat(first|(refine ZI ?_;intro id G hG)|(refine ZH ?_;intro id G hG))
  refine Za ?_
  refine Zc ?_
  refine Zb ?_
  repeat(first|refine Zh ?_|refine Zaj ?_|refine ZS ?_|(refine Zz ?_;intro G hG))
  refine Za ?_
  refine Xmh 0 hG rfl (Xow l st ls) ?_
  clear hG
  intro G hG
  repeat(first|refine Zf ?_)
  exact ZdW
set_option maxHeartbeats 8000000 in
theorem Xnh (l:List Item) (st:List Style) (ls:List Lst):Iso Tryz.prog 24 [.agg (XfM l st ls)] (fun p=>p=.agg (X8 (Xc5 l st ls))):=by
  have hG:=Xd
  refine Xb Tryz.func24 rfl rfl rfl ?_
  refine Zc ?_
  refine Zb ?_
  repeat(first|(refine ZI ?_;intro id G hG)|(refine ZH ?_;intro id G hG))
  refine Za ?_
  refine Zc ?_
  refine Zb ?_
  repeat(first|refine Zh ?_|refine Zaj ?_|refine ZS ?_|(refine Zz ?_;intro G hG))
  refine Za ?_
  refine Xmh 0 hG rfl (Xow l st ls) ?_
  clear hG
  intro G hG
  repeat(first|refine Zf ?_)
  exact ZdW
set_option maxHeartbeats 16000000 in
theorem Xky (d:Doc) (hc:Xw d.flow≤300) (hh:HBd d.fin) (hr:d.revs.length≤1000000) (hs:SmS d.sets):Iso Tryz.prog 43 [.agg (X8 d)] (fun p=>p=.agg (X8 d)):=by
  have c41:=XlV d.flow hc
  have c63:=Xal d.fin hh
  have c66:=Xhk d.revs hr
  have c67:=Xjk d.sets hs
  have hG:=Xd
  refine Xb Tryz.func43 rfl rfl rfl ?_
  repeat(first|refine Zev ?_|(refine ZI ?_;intro id G hG)|(refine ZH ?_;intro id G hG))
  rename_i ib _ _
  have hG:Has G [(id,⟨_,53,true⟩),(ib,⟨X8 d,53,true⟩)]:=hG
  obtain ⟨H1,e1⟩:∃ X,X=G.set id (some ⟨X8 d,53,true⟩):=⟨_,rfl⟩
  have hG1:=hG.set (k:=0) rfl ⟨X8 d,53,true⟩
  rw [← e1] at hG1
  refine Zaa ?_
  repeat(first|refine Za9 ?_|refine Y_k rfl rfl rfl (by decide) (fun _=>Iso.K rfl rfl rfl rfl c41 (TreeL.cons (XM _) TreeL.nil)) ?_|refine Y_k rfl rfl rfl (by decide) (fun _=>Iso.K rfl rfl rfl rfl c63 (TreeL.cons (Xk.agg (X6 _)) TreeL.nil)) ?_|refine Y_k rfl rfl rfl (by decide) (fun _=>Iso.K rfl rfl rfl rfl c66 (TreeL.cons (Xba _) TreeL.nil)) ?_|refine Y_k rfl rfl rfl (by decide) (fun _=>Iso.K rfl rfl rfl rfl c67 (TreeL.cons (Xk.agg (Xdl _)) TreeL.nil)) ?_|refine Zbb ?_|refine Zex ?_)
  have hG:=hG1
  repeat(first|refine Zf ?_)
  exact XcK rfl rfl (XaV (hG.get 0 _ _ rfl)) (.refl _) (Xk.agg (Xam d)) rfl
theorem XnU (g:Nat) (cap:List PV):Iso Tryz.prog 134 [Xdr [],.fn (.func g) cap] (fun p=>p=I (-1)):=by
  have hG:=Xd
  refine Xb Tryz.func134 rfl rfl rfl ?_
  repeat(first|refine Zes ?_)
  refine Xg (S:=Unit) (fun _=>[(7,I 0),(8,I 0)]) (fun _ G=>Has G []) (fun _=>0) ()
    (.cons rfl (.cons rfl (.nil _))) hG ?_
  clear hG
  rintro _ G hG
  repeat(first|refine Zes ?_)
  exact ZB
theorem Xn5 (g:Nat) (cap:List PV) (hc:∀ c ∈ cap,Xk c):Iso Tryz.prog 65 [Xdr [],.fn (.func g) cap] (fun p=>p=Xdr []):=by
  have hG:=Xd
  have hk:=XnU g cap
  have tk:∀ c ∈ [Xdr [],.fn (.func g) cap],Xk c:=TreeL.cons (Xba _) (TreeL.cons (Xk.fn hc) TreeL.nil)
  refine Xb Tryz.func65 rfl rfl rfl ?_
  repeat(first|refine Zes ?_|(refine Zb2 ?_;rintro _ rfl))
  exact XI rfl rfl (.refl _) (Xba _) rfl
set_option maxHeartbeats 16000000 in
theorem Xji (l:List Item) (st:List Style) (ls:List Lst) (hc:Xw l≤300) (hc2:Xw (Xcj l)≤300) (hf:XbV l) (hb:Xcw XcU (Xcj l)) (hs:SmS ⟨st,ls,[],[]⟩) :
    Iso Tryz.prog 23 [.agg (X8 (Xc5 l st ls))] (fun p=>p=.agg (X8 (Xc5 (Xcj l) st ls))):=by
  have hG:=Xd
  have hn:=Xia l hc hf
  generalize Xcj l=m at hn hc2 hb ⊢
  have hu:=Xmi (Xc5 m st ls) hc2 hb ⟨rfl,rfl,rfl⟩
  have hcl:=Xhk [] (by simp)
  have hdc:=Xky (Xc5 m st ls) hc2 ⟨by simp [Xc5,Xlu],by simp [Xc5,Xlu],by simp [Xc5,Xlu]⟩ (by simp [Xc5]) hs
  have hdr:=Xn5 67 [.ept [XaQ] 0] (TreeL.cons (Xk.ept (TreeL.cons Xci TreeL.nil)) TreeL.nil)
  have t1:∀ c ∈ [Xh l],Xk c:=TreeL.cons (XM _) TreeL.nil
  have t2:∀ c ∈ [PV.agg (X8 (Xc5 m st ls))],Xk c:=TreeL.cons (Xk.agg (Xam _)) TreeL.nil
  have t3:∀ c ∈ [Xdr []],Xk c:=TreeL.cons (Xba _) TreeL.nil
  have t4:∀ c ∈ [Xdr [],.fn (.func 67) [.ept [XaQ] 0]],Xk c:=TreeL.cons (Xba _) (TreeL.cons (Xk.fn (TreeL.cons (Xk.ept (TreeL.cons Xci TreeL.nil)) TreeL.nil)) TreeL.nil)
  refine Xb Tryz.func23 rfl rfl rfl ?_
  refine Zc ?_
  refine Zb ?_
  repeat(first|(refine ZI ?_;intro id G hG)|(refine ZH ?_;intro id G hG))
  refine Za ?_
  rename_i b1 _ _
  have hG:Has G [(id,⟨_,53,true⟩),(b1,⟨X8 (Xc5 l st ls),53,true⟩)]:=hG
  refine Zc ?_
  refine Zb ?_
  repeat(first|(refine Xr rfl rfl rfl rfl rfl rfl (by decide) hn t1 ?_;rintro _ rfl)|refine Zh ?_|refine ZS ?_|(refine ZaP ?_;intro G hG))
  refine Za ?_
  have hG:Has G [(id,⟨_,53,true⟩),(b1,⟨X8 (Xc5 m st ls),53,true⟩)]:=hG
  refine Zc ?_
  refine Zb ?_
  repeat(first|(refine Xr rfl rfl rfl rfl rfl rfl (by decide) hu t2 ?_;rintro _ rfl)|refine ZS ?_|(refine Zz ?_;intro G hG)|(refine ZI ?_;intro id G hG))
  refine Za ?_
  refine Xz (C:=⟨[XaQ],57,true⟩) 3 hG rfl ?_
  clear hG
  intro G hG
  repeat(first|refine Zes ?_|(refine Xr rfl rfl rfl rfl rfl rfl (by decide) hcl t3 ?_;rintro _ rfl)|refine Zav ?_|(refine Xr rfl rfl rfl rfl rfl rfl (by decide) hdr t4 ?_;rintro _ rfl)|(refine Xr rfl rfl rfl rfl rfl rfl (by decide) hdc t2 ?_;rintro _ rfl)|refine ZS ?_|(refine Zz ?_;intro G hG)|(refine ZaP ?_;intro G hG))
  exact XcK rfl rfl (XaV (hG.get 0 _ _ rfl)) (.refl _) (Xk.agg (Xam (Xc5 m st ls))) rfl
end Go.Proofs.YtlcphjcpoinolaaGreat
namespace Go.Proofs.YtlcphjcpoinolaaGreat
open Go.RowKit Go.Th
set_option maxRecDepth 20000
set_option maxHeartbeats 16000000 in
theorem Xjp (l:List Rev) (hl:l.length≤1000000) (e:Nat→Int) (h:∀ i,i < min l.length 256→Iso Tryz.prog 109 [I i,.ept [Xdr l] 0] (fun p=>p=I (e i))) :
    Iso Tryz.prog 47 [Xdr l] (fun p=>p=I (XaG [XbO (decide ((256:Int) < l.length)) 9,Xl0 e (min l.length 256)])):=by
  have hG:=Xd
  have hW:=Xbe (decide ((256:Int) < l.length)) 9
  have tW:∀ c ∈ [B (decide ((256:Int) < l.length)),I 9],Xk c:=TreeL.cons (Xcv _) (TreeL.cons (Xe _) TreeL.nil)
  have hcap:∀ c ∈ [PV.ept [Xdr l] 0],Xk c:=TreeL.cons (Xk.ept (TreeL.cons (Xba _) TreeL.nil)) TreeL.nil
  have hA:=Xjw (min l.length 256) 109 [.ept [Xdr l] 0] e (by omega) hcap h
  have tA:∀ c ∈ [I ((min l.length 256:Nat):Int),.fn (.func 109) [.ept [Xdr l] 0]],Xk c:=TreeL.cons (Xe _) (TreeL.cons (Xk.fn hcap) TreeL.nil)
  have hmin:I (min ((l.length:Nat):Int) 256)=I ((min l.length 256:Nat):Int):=by congr 3;omega
  generalize Xl0 e (min l.length 256)=y at hA ⊢
  generalize XbO (decide ((256:Int) < l.length)) 9=x at hW ⊢
  have hI:=Xa8 [x,y] (by simp)
  have tI:∀ c ∈ [XcS [x,y]],Xk c:=TreeL.cons (XY _) TreeL.nil
  refine Xb Tryz.func47 rfl rfl rfl ?_
  refine Zc ?_
  refine Zb ?_
  repeat(first|refine Zd ?_|(refine ZH ?_;intro id G hG))
  refine Za ?_
  refine ZaA ?_
  clear hG
  intro G hG
  obtain ⟨H1,e3⟩:∃ X,X=G++[some (Blk.mk [I x,I y] 29 true)]:=⟨_,rfl⟩
  have hG1:=hG.new (Blk.mk [I x,I y] 29 true)
  rw [← e3] at hG1
  repeat refine Xaf ?_
  refine Zaa ?_
  repeat(first|refine ZbA ?_|refine Zca ?_|refine ZbE ?_|refine Za7 ?_|refine ZbF ?_|refine ZaM ?_|refine Zay ?_|refine Zex ?_)
  repeat(first|refine Zf ?_)
  exact ZB
set_option maxHeartbeats 16000000 in
theorem XhM (l:List Lst) (hl:l.length≤1000000) (e:Nat→Int) (h:∀ i,i < min l.length 64→Iso Tryz.prog 168 [I i,.ept [Xbq l] 0] (fun p=>p=I (e i))) :
    Iso Tryz.prog 105 [Xbq l] (fun p=>p=I (XaG [XbO (decide ((64:Int) < l.length)) 9,Xl0 e (min l.length 64)])):=by
  have hG:=Xd
  have hW:=Xbe (decide ((64:Int) < l.length)) 9
  have tW:∀ c ∈ [B (decide ((64:Int) < l.length)),I 9],Xk c:=TreeL.cons (Xcv _) (TreeL.cons (Xe _) TreeL.nil)
  have hcap:∀ c ∈ [PV.ept [Xbq l] 0],Xk c:=TreeL.cons (Xk.ept (TreeL.cons (XaN _) TreeL.nil)) TreeL.nil
  have hA:=Xjw (min l.length 64) 168 [.ept [Xbq l] 0] e (by omega) hcap h
  have tA:∀ c ∈ [I ((min l.length 64:Nat):Int),.fn (.func 168) [.ept [Xbq l] 0]],Xk c:=TreeL.cons (Xe _) (TreeL.cons (Xk.fn hcap) TreeL.nil)
  have hmin:I (min ((l.length:Nat):Int) 64)=I ((min l.length 64:Nat):Int):=by congr 3;omega
  generalize Xl0 e (min l.length 64)=y at hA ⊢
  generalize XbO (decide ((64:Int) < l.length)) 9=x at hW ⊢
  have hI:=Xa8 [x,y] (by simp)
  have tI:∀ c ∈ [XcS [x,y]],Xk c:=TreeL.cons (XY _) TreeL.nil
  refine Xb Tryz.func105 rfl rfl rfl ?_
  refine Zc ?_
  refine Zb ?_
  repeat(first|refine Zd ?_|(refine ZH ?_;intro id G hG))
  refine Za ?_
  refine ZaA ?_
  clear hG
  intro G hG
  obtain ⟨H1,e3⟩:∃ X,X=G++[some (Blk.mk [I x,I y] 29 true)]:=⟨_,rfl⟩
  have hG1:=hG.new (Blk.mk [I x,I y] 29 true)
  rw [← e3] at hG1
  repeat refine Xaf ?_
  refine Zaa ?_
  repeat(first|refine ZbA ?_|refine Zca ?_|refine ZbE ?_|refine Za7 ?_|refine ZbF ?_|refine ZaM ?_|refine Zay ?_|refine Zex ?_)
  repeat(first|refine Zf ?_)
  exact ZB
set_option maxHeartbeats 16000000 in
theorem XfP (l:List Comment) (hl:l.length≤1000000) (e:Nat→Int) (h:∀ i,i < min l.length 1024→Iso Tryz.prog 171 [I i,.ept [Xah l] 0] (fun p=>p=I (e i))) :
    Iso Tryz.prog 106 [Xah l] (fun p=>p=I (XaG [XbO (decide ((1024:Int) < l.length)) 9,Xl0 e (min l.length 1024)])):=by
  have hG:=Xd
  have hW:=Xbe (decide ((1024:Int) < l.length)) 9
  have tW:∀ c ∈ [B (decide ((1024:Int) < l.length)),I 9],Xk c:=TreeL.cons (Xcv _) (TreeL.cons (Xe _) TreeL.nil)
  have hcap:∀ c ∈ [PV.ept [Xah l] 0],Xk c:=TreeL.cons (Xk.ept (TreeL.cons (XaO _) TreeL.nil)) TreeL.nil
  have hA:=Xjw (min l.length 1024) 171 [.ept [Xah l] 0] e (by omega) hcap h
  have tA:∀ c ∈ [I ((min l.length 1024:Nat):Int),.fn (.func 171) [.ept [Xah l] 0]],Xk c:=TreeL.cons (Xe _) (TreeL.cons (Xk.fn hcap) TreeL.nil)
  have hmin:I (min ((l.length:Nat):Int) 1024)=I ((min l.length 1024:Nat):Int):=by congr 3;omega
  generalize Xl0 e (min l.length 1024)=y at hA ⊢
  generalize XbO (decide ((1024:Int) < l.length)) 9=x at hW ⊢
  have hI:=Xa8 [x,y] (by simp)
  have tI:∀ c ∈ [XcS [x,y]],Xk c:=TreeL.cons (XY _) TreeL.nil
  refine Xb Tryz.func106 rfl rfl rfl ?_
  refine Zc ?_
  refine Zb ?_
  repeat(first|refine Zd ?_|(refine ZH ?_;intro id G hG))
  refine Za ?_
  refine ZaA ?_
  clear hG
  intro G hG
  obtain ⟨H1,e3⟩:∃ X,X=G++[some (Blk.mk [I x,I y] 29 true)]:=⟨_,rfl⟩
  have hG1:=hG.new (Blk.mk [I x,I y] 29 true)
  rw [← e3] at hG1
  repeat refine Xaf ?_
  refine Zaa ?_
  repeat(first|refine ZbA ?_|refine Zca ?_|refine ZbE ?_|refine Za7 ?_|refine ZbF ?_|refine ZaM ?_|refine Zay ?_|refine Zex ?_)
  repeat(first|refine Zf ?_)
  exact ZB
set_option maxHeartbeats 16000000 in
theorem Xjo (l:List Var) (hl:l.length≤1000000) (e:Nat→Int) (h:∀ i,i < min l.length 128→Iso Tryz.prog 176 [I i,.ept [XdP l] 0] (fun p=>p=I (e i))) :
    Iso Tryz.prog 107 [XdP l] (fun p=>p=I (XaG [XbO (decide ((128:Int) < l.length)) 9,Xl0 e (min l.length 128)])):=by
  have hG:=Xd
  have hW:=Xbe (decide ((128:Int) < l.length)) 9
  have tW:∀ c ∈ [B (decide ((128:Int) < l.length)),I 9],Xk c:=TreeL.cons (Xcv _) (TreeL.cons (Xe _) TreeL.nil)
  have hcap:∀ c ∈ [PV.ept [XdP l] 0],Xk c:=TreeL.cons (Xk.ept (TreeL.cons (Xb9 _) TreeL.nil)) TreeL.nil
  have hA:=Xjw (min l.length 128) 176 [.ept [XdP l] 0] e (by omega) hcap h
  have tA:∀ c ∈ [I ((min l.length 128:Nat):Int),.fn (.func 176) [.ept [XdP l] 0]],Xk c:=TreeL.cons (Xe _) (TreeL.cons (Xk.fn hcap) TreeL.nil)
  have hmin:I (min ((l.length:Nat):Int) 128)=I ((min l.length 128:Nat):Int):=by congr 3;omega
  generalize Xl0 e (min l.length 128)=y at hA ⊢
  generalize XbO (decide ((128:Int) < l.length)) 9=x at hW ⊢
  have hI:=Xa8 [x,y] (by simp)
  have tI:∀ c ∈ [XcS [x,y]],Xk c:=TreeL.cons (XY _) TreeL.nil
  refine Xb Tryz.func107 rfl rfl rfl ?_
  refine Zc ?_
  refine Zb ?_
  repeat(first|refine Zd ?_|(refine ZH ?_;intro id G hG))
  refine Za ?_
  refine ZaA ?_
  clear hG
  intro G hG
  obtain ⟨H1,e3⟩:∃ X,X=G++[some (Blk.mk [I x,I y] 29 true)]:=⟨_,rfl⟩
  have hG1:=hG.new (Blk.mk [I x,I y] 29 true)
  rw [← e3] at hG1
  repeat refine Xaf ?_
  refine Zaa ?_
  repeat(first|refine ZbA ?_|refine Zca ?_|refine ZbE ?_|refine Za7 ?_|refine ZbF ?_|refine ZaM ?_|refine Zay ?_|refine Zex ?_)
  repeat(first|refine Zf ?_)
  exact ZB
set_option maxHeartbeats 16000000 in
theorem XfO (s:Sets) (e1 e2 e3 e4:Int) (h1:Iso Tryz.prog 104 [XN s.styles] (fun p=>p=I e1)) (h2:Iso Tryz.prog 105 [Xbq s.lists] (fun p=>p=I e2))
    (h3:Iso Tryz.prog 106 [Xah s.comments] (fun p=>p=I e3)) (h4:Iso Tryz.prog 107 [XdP s.vars] (fun p=>p=I e4)):Iso Tryz.prog 46 [.agg (XaI s)] (fun p=>p=I (XaG [e1,e2,e3,e4])):=by
  have hG:=Xd
  have hI:=Xa8 [e1,e2,e3,e4] (by simp)
  have tI:∀ c ∈ [XcS [e1,e2,e3,e4]],Xk c:=TreeL.cons (XY _) TreeL.nil
  refine Xb Tryz.func46 rfl rfl rfl ?_
  refine Zc ?_
  refine Zb ?_
  repeat(first|refine Zd ?_|(refine ZH ?_;intro id G hG))
  refine Za ?_
  refine ZaA ?_
  clear hG
  intro G hG
  obtain ⟨H1,e3'⟩:∃ X,X=G++[some (Blk.mk [I e1,I e2,I e3,I e4] 29 true)]:=⟨_,rfl⟩
  have hG1:=hG.new (Blk.mk [I e1,I e2,I e3,I e4] 29 true)
  rw [← e3'] at hG1
  repeat refine Xaf ?_
  refine Zaa ?_
  repeat(first|refine Y_k rfl rfl rfl (by decide) (fun _=>Iso.K rfl rfl rfl rfl h1 (TreeL.cons (XS _) TreeL.nil)) ?_|refine Y_k rfl rfl rfl (by decide) (fun _=>Iso.K rfl rfl rfl rfl h2 (TreeL.cons (XaN _) TreeL.nil)) ?_|refine Y_k rfl rfl rfl (by decide) (fun _=>Iso.K rfl rfl rfl rfl h3 (TreeL.cons (XaO _) TreeL.nil)) ?_|refine Y_k rfl rfl rfl (by decide) (fun _=>Iso.K rfl rfl rfl rfl h4 (TreeL.cons (Xb9 _) TreeL.nil)) ?_|refine Y_w 0 (by decide +kernel) rfl rfl rfl rfl (by decide) (XaB rfl rfl rfl rfl rfl rfl rfl rfl) e3' ?_|refine Zay ?_|refine Zex ?_)
  refine Zf ?_
  refine XI (p:=I (XaG [e1,e2,e3,e4])) (q:=I (XaG [e1,e2,e3,e4])) rfl rfl (.refl _) (Xe _) rfl
end Go.Proofs.YtlcphjcpoinolaaGreat
namespace Go.Proofs.YtlcphjcpoinolaaGreat
open Go.RowKit Go.Th
set_option maxRecDepth 20000
set_option maxHeartbeats 8000000 in
theorem XnG (l:List Lst) (i:Nat) (x:Lst) (hx:l[i]?=some x) (hi:i < l.length):Iso Tryz.prog 169 [I i,.ept [Xbq l] 0] (fun p=>p=I x.id):=by
  have hG:=Xd
  have hc:=Xp XfC l i x hx
  refine Xb Tryz.func169 rfl rfl rfl ?_
  repeat(first|refine Zes ?_|refine Xn rfl rfl (by decide) (Xc (cells:=l.flatMap Xae) rfl rfl rfl (by omega) (by exact hc)) ?_)
  exact Zaf
set_option maxHeartbeats 8000000 in
theorem XrN (l:List Lst) (i:Nat) (x:Lst) (hx:l[i]?=some x) (hi:i < l.length) (hl:l.length≤1000000) (f:Nat→Int) (hf:∀ j,j≤i→Iso Tryz.prog 169 [I j,.ept [Xbq l] 0] (fun p=>p=I (f j)))
    (e:Int) (h:Iso Tryz.prog 170 [XcM x.levels] (fun p=>p=I e)):Iso Tryz.prog 168 [I i,.ept [Xbq l] 0] (fun p=>p=I (XaG [XAV f i,e])):=by
  have hG:=Xd
  have hc:=Xp XfC l i x hx
  have tc:∀ c ∈ [PV.ept [Xbq l] 0],Xk c:=TreeL.cons (Xk.ept (TreeL.cons (XaN _) TreeL.nil)) TreeL.nil
  have hA:=XhF i 169 [.ept [Xbq l] 0] f (by omega) tc hf
  have tA:∀ c ∈ [I i,.fn (.func 169) [.ept [Xbq l] 0]],Xk c:=TreeL.cons (Xe _) (TreeL.cons (Xk.fn tc) TreeL.nil)
  have tL:∀ c ∈ [XcM x.levels],Xk c:=TreeL.cons (Xbi _) TreeL.nil
  generalize XAV f i=y at hA ⊢
  have hI:=Xa8 [y,e] (by simp)
  have tI:∀ c ∈ [XcS [y,e]],Xk c:=TreeL.cons (XY _) TreeL.nil
  refine Xb Tryz.func168 rfl rfl rfl ?_
  refine Zc ?_
  refine Zb ?_
  repeat(first|refine Zd ?_)
  refine Za ?_
  obtain ⟨H1,e3⟩:∃ X,X=([]:Xi)++[some (Blk.mk [I y,I e] 29 true)]:=⟨_,rfl⟩
  have hG1:=hG.new (Blk.mk [I y,I e] 29 true)
  rw [← e3] at hG1
  repeat refine Xaf ?_
  refine Zaa ?_
  repeat(first|refine ZbE ?_|refine Zag ?_|refine Y_v rfl rfl rfl (by decide) (fun _=>Xc (cells:=l.flatMap Xae) rfl rfl rfl (by omega) (by exact hc)) ?_|refine ZbF ?_|refine Y_k rfl rfl rfl (by decide) (fun _=>Iso.K rfl rfl rfl rfl h tL) ?_|refine ZaM ?_|refine Zay ?_|refine Zex ?_)
  refine Zf ?_
  refine XI (p:=I (XaG [y,e])) (q:=I (XaG [y,e])) rfl rfl (.refl _) (Xe _) rfl
theorem XAA {n:Nat} {Q:Nat→Int→Prop} (h:∀ i,i < n→∃ e,Q i e):∃ f:Nat→Int,∀ i,i < n→Q i (f i):=by
  refine ⟨fun i=>if hi:i < n then Classical.choose (h i hi) else 0,fun i hi=>?_⟩
  dsimp only
  rw [dif_pos hi]
  exact Classical.choose_spec (h i hi)
theorem Xpl (l:List Lst) (hl:l.length≤20) (h2:∀ (j:Nat) (x:Lst),l[j]?=some x→x.levels.length≤12):∃ e,Iso Tryz.prog 105 [Xbq l] (fun p=>p=I e):=by
  have hx:∀ i,i < min l.length 64→∃ e,Iso Tryz.prog 168 [I i,.ept [Xbq l] 0] (fun p=>p=I e):=by
    intro i hi
    have hil:i < l.length:=by omega
    obtain ⟨e,he⟩:=Xhy l[i].levels (by have:=h2 i l[i] (List.getElem?_eq_getElem hil);omega)
    refine ⟨_,XrN l i l[i] (List.getElem?_eq_getElem hil) hil (by omega) (fun j=>((l[j]?).map Lst.id).getD 0) (fun j hj=>?_) e he⟩
    have hjl:j < l.length:=by omega
    have:=XnG l j l[j] (List.getElem?_eq_getElem hjl) hjl
    rw [List.getElem?_eq_getElem hjl]
    exact this
  obtain ⟨f,hf⟩:=XAA hx
  exact ⟨_,XhM l (by omega) f hf⟩
theorem Xq4 (st:List Style) (ls:List Lst) (hs:SmS ⟨st,ls,[],[]⟩) (h:Iso Tryz.prog 104 [XN st] (fun p=>p=I (XAT st))):∃ e,Iso Tryz.prog 46 [.agg (XaI ⟨st,ls,[],[]⟩)] (fun p=>p=I e):=by
  obtain ⟨_,h2,_,_,_,h3⟩:=hs
  obtain ⟨e2,k2⟩:=Xpl ls h2 h3
  exact ⟨_,XfO ⟨st,ls,[],[]⟩ _ _ _ _ h k2 (XfP [] (by simp) (fun _=>0) (fun i hi=>absurd hi (by simp))) (Xjo [] (by simp) (fun _=>0) (fun i hi=>absurd hi (by simp)))⟩
theorem Xrf:∃ e,Iso Tryz.prog 47 [Xdr []] (fun p=>p=I e):=⟨_,Xjp [] (by simp) (fun _=>0) (fun i hi=>absurd hi (by simp))⟩
theorem Xly (l:List Item) (st:List Style) (ls:List Lst) (hc:Xw l≤300) (hs:SmS ⟨st,ls,[],[]⟩):∃ e1 e2,Iso Tryz.prog 19 [.agg (X8 (Xc5 l st ls))] (fun p=>p=I (Xte e1 e2 (Xc5 l st ls))):=by
  obtain ⟨e1,h1⟩:=Xq4 st ls hs (XjQ st (by have:=hs.1;simp only at this;omega) (fun x hx=>by
    obtain ⟨j,hj⟩:=List.mem_iff_getElem?.1 hx
    have:=hs.2.2.2.2.1 j x hj
    omega))
  obtain ⟨e2,h2⟩:=Xrf
  exact ⟨e1,e2,Xkz (Xc5 l st ls) hc ⟨by simp [Xc5,Xlu],by simp [Xc5,Xlu],by simp [Xc5,Xlu]⟩ (by have:=hs.1;simp only [Xc5] at this ⊢;omega) (by have:=hs.2.1;simp only [Xc5] at this ⊢;omega) (by simp [Xc5]) e1 e2 h1 h2 (Xam _) (Xdl _) (Xba _)⟩
end Go.Proofs.YtlcphjcpoinolaaGreat
