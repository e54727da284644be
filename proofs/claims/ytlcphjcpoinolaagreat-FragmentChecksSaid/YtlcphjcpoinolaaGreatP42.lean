/- Part of the proof: the walk over the program and its laws: Ql. -/
import Derived.Test.YtlcphjcpoinolaaGreatP0
import Derived.Test.YtlcphjcpoinolaaGreatP41
import Derived.Test.YtlcphjcpoinolaaGreatP36
set_option linter.unusedVariables false
namespace Go.Proofs.YtlcphjcpoinolaaGreat
open Go.RowKit Go.Th
set_option maxRecDepth 20000
def XnC (h:Head):Bool:=if h.ins≠0 then true else if h.move≠0 then true else decide ((0:Int) < h.dels.length)
def Xte (e1 e2:Int) (d:Doc):Int :=
  if XaG [e1,e2]=0 then
    (if XaG [XcO (Xs0 d) 3 d.fin,XbO (XnC d.fin) 21]=0 then
      (if (Xb5 d.flow ⟨true,false,0⟩ (Xs0 d)).1=0 then XbO (decide ((16384:Int) < (Xb5 d.flow ⟨true,false,0⟩ (Xs0 d)).2.units)) 9 else (Xb5 d.flow ⟨true,false,0⟩ (Xs0 d)).1)
    else XaG [XcO (Xs0 d) 3 d.fin,XbO (XnC d.fin) 21])
  else XaG [e1,e2]
set_option maxHeartbeats 64000000 in
theorem Xkz (d:Doc) (hc:Xw d.flow≤300) (hh:HeadOk d.fin) (hl1:d.sets.styles.length≤1000000) (hl2:d.sets.lists.length≤1000000) (hl3:d.revs.length≤1000000) (e1 e2:Int)
    (h46:Iso Tryz.prog 46 [.agg (XaI d.sets)] (fun p=>p=I e1)) (h47:Iso Tryz.prog 47 [Xdr d.revs] (fun p=>p=I e2)) (td:∀ c ∈ X8 d,Xk c) (ts:∀ c ∈ XaI d.sets,Xk c) (tr:Xk (Xdr d.revs)):Iso Tryz.prog 19 [.agg (X8 d)] (fun p=>p=I (Xte e1 e2 d)):=by
  have hG:=Xd
  obtain ⟨q,hq⟩:∃ q,Xte e1 e2 d=q:=⟨_,rfl⟩
  rw [hq]
  unfold Xte at hq
  have hI:=Xa8 [e1,e2] (by simp)
  have tI:∀ c ∈ [XcS [e1,e2]],Xk c:=TreeL.cons (XY _) TreeL.nil
  refine Xb Tryz.func19 rfl rfl rfl ?_
  refine Zc ?_
  refine Zb ?_
  repeat(first|refine Zd ?_|(refine ZH ?_;intro id G hG))
  refine Za ?_
  refine ZaA ?_
  clear hG
  intro G hG
  obtain ⟨H1,e3⟩:∃ X,X=G++[some (Blk.mk [I e1,I e2] 29 true)]:=⟨_,rfl⟩
  have hG1:=hG.new (Blk.mk [I e1,I e2] 29 true)
  rw [← e3] at hG1
  repeat refine Xaf ?_
  refine Zaa ?_
  repeat(first|refine Y_k rfl rfl rfl (by decide) (fun _=>Iso.K rfl rfl rfl rfl h46 (TreeL.cons (Xk.agg ts) TreeL.nil)) ?_|refine Y_k rfl rfl rfl (by decide) (fun _=>Iso.K rfl rfl rfl rfl h47 (TreeL.cons tr TreeL.nil)) ?_|refine ZaM ?_|refine Zay ?_|refine Zag ?_|refine Zex ?_)
  have hG:=hG1.tail
  clear hG1 e3 hI tI h46 h47
  generalize XaG [e1,e2]=e at hq ⊢
  by_cases e0:e=0
  rotate_left
  · rw [if_neg e0] at hq
    repeat(first|refine Zes ?_)
    exact XI rfl rfl (.refl _) (.v _) (by rw [← hq];rfl)
  rw [if_pos e0] at hq
  repeat(first|refine Zes ?_)
  refine X5 rfl rfl rfl rfl rfl rfl (by decide) (XiR d hl1 hl2 hl3 _ _ hG) ?_
  rintro _ G ⟨c,rfl,hck⟩
  generalize Xs0 d=s at hck hq
  obtain ⟨es,el,er,eb,eu,ts',tl',tr',tb,tu,hG,a1,a2,a3,a4,a5,ae⟩:=hck
  repeat(first|refine Zes ?_|(refine Zz ?_;intro G hG)|(refine ZI ?_;intro id G hG))
  refine Xz 5 hG rfl ?_
  clear hG
  intro G hG
  have hck:CkH c s [] G:=⟨es,el,er,eb,eu,ts',tl',tr',tb,tu,hG,a1,a2,a3,a4,a5,ae⟩
  clear hG a1 a2 a3 a4 a5 ae
  have hA:=Xjn (XeM.refl s) hck (fun K G hc=>Xi1 c s K G hc 3 d.fin hh)
  rw [Xmk hck] at hA
  obtain ⟨x,hx⟩:∃ x,XcO s 3 d.fin=x:=⟨_,rfl⟩
  obtain ⟨y,hy⟩:∃ y,XbO (XnC d.fin) 21=y:=⟨_,rfl⟩
  rw [hx] at hA
  rw [hx,hy] at hq
  have hI:=Xa8 [x,y] (by simp)
  have tI:∀ c ∈ [XcS [x,y]],Xk c:=TreeL.cons (XY _) TreeL.nil
  obtain ⟨H1,e3⟩:∃ X,X=G++[some (Blk.mk [I x,I y] 29 true)]:=⟨_,rfl⟩
  have hck1:CkH c s [(G.length,Blk.mk [I x,I y] 29 true)] H1:=by
    obtain ⟨es,el,er,eb,eu,ts',tl',tr',tb,tu,hG,a1,a2,a3,a4,a5,ae⟩:=hck
    rw [e3]
    exact ⟨es,el,er,eb,eu,ts',tl',tr',tb,tu,Has.swap6 [(G.length,Blk.mk [I x,I y] 29 true)] (hG.new _),a1,a2,a3,a4,a5,ae⟩
  have hG1:Has H1 [(G.length,Blk.mk [I x,I y] 29 true)]:=by
    obtain ⟨es,el,er,eb,eu,ts',tl',tr',tb,tu,hG,_⟩:=hck1
    exact hG.tail.tail.tail.tail.tail.tail
  have hW:=Xbe (XnC d.fin) 21
  rw [hy] at hW
  have tW:∀ c ∈ [B (XnC d.fin),I 21],Xk c:=TreeL.cons (Xcv _) (TreeL.cons (Xe _) TreeL.nil)
  repeat refine Xaf ?_
  refine Xcx (S:=Unit) (fun _=>[(1,.ept (X8 d) 0),(4,.ptr c.ic 0),(6,I (XaG [x,y]))]) (fun _ G=>CkH c s [] G) ?_ ?_
  · unfold XnC at hW tW
    by_cases m1:d.fin.ins=0
    · rw [if_neg (fun h=>h m1)] at hW tW
      by_cases m2:d.fin.move=0
      · rw [if_neg (fun h=>h m2)] at hW tW
        refine Zaa ?_
        repeat(first|refine ZcW ?_|refine Za7 ?_|refine ZaM ?_|refine Zay ?_|refine Zd2 ?_|refine Zex ?_|refine Zd3 ?_|refine Xw9 (fun _=>XP rfl rfl rfl (congrArg some (Xb4 (by omega)))) rfl (by decide) rfl rfl rfl rfl (by decide) ?_|refine Xw9 (fun _=>XP rfl rfl rfl rfl) rfl (by decide) rfl rfl rfl rfl (by decide) ?_|refine Xw9 (fun _=>Xen rfl rfl rfl) rfl (by decide) rfl rfl rfl rfl (by decide) ?_|refine Zd4 ?_|refine Zd5 ?_)
        exact ZcX
      · rw [if_pos m2] at hW tW
        refine Zaa ?_
        repeat(first|refine ZcW ?_|refine Za7 ?_|refine ZaM ?_|refine Zay ?_|refine Zd2 ?_|refine Zex ?_|refine Zd6 ?_|refine Zd3 ?_|refine Xw9 (fun _=>XP rfl rfl rfl (congrArg some (Xb3 (by omega)))) rfl (by decide) rfl rfl rfl rfl (by decide) ?_|refine Zd4 ?_|refine Zd5 ?_|refine ZT ?_)
        exact ZcX
    · rw [if_pos m1] at hW tW
      refine Zaa ?_
      repeat(first|refine ZcW ?_|refine Za7 ?_|refine ZaM ?_|refine Zay ?_|refine Y_v rfl rfl rfl (by decide) (fun _=>XP rfl rfl rfl (congrArg some (Xb3 (by omega)))) ?_|refine Zex ?_|refine Zd6 ?_|refine ZT ?_)
      exact ZcX
  clear hG1 hck1 e3 hI tI hA hck hW tW
  rintro _ G hck
  generalize XaG [x,y]=e at hq ⊢
  by_cases e1:e=0
  rotate_left
  · rw [if_neg e1] at hq
    repeat(first|refine Zes ?_)
    exact XI rfl rfl (.refl _) (.v _) (by rw [← hq])
  rw [if_pos e1] at hq
  have hit:=XnN d.flow hc ⟨true,false,0⟩ c s [] G hck
  generalize Xb5 d.flow ⟨true,false,0⟩ s=r at hq hit
  obtain ⟨r1,r2⟩:=r
  dsimp only at hq hit
  repeat(first|refine Zes ?_|(refine X5 rfl rfl rfl rfl rfl rfl (by decide) hit ?_;rintro _ G ⟨rfl,hck⟩)|refine Z7 ?_|refine Zaj ?_)
  clear hit
  by_cases e2:r1=0
  rotate_left
  · rw [if_neg e2] at hq
    repeat(first|refine Zes ?_)
    exact XI rfl rfl (.refl _) (.v _) (by rw [← hq])
  rw [if_pos e2] at hq
  obtain ⟨es,el,er,eb,eu,ts',tl',tr',tb,tu,hG,a1,a2,a3,a4,a5,ae⟩:=hck
  have hW:=Xbe (decide ((16384:Int) < r2.units)) 9
  have tW:∀ c ∈ [B (decide ((16384:Int) < r2.units)),I 9],Xk c:=TreeL.cons (Xcv _) (TreeL.cons (Xe _) TreeL.nil)
  rw [hq] at hW
  repeat(first|refine Zes ?_|refine Z7 ?_|(refine ZcE ?_;rintro _ rfl)|refine ZL ?_)
  exact ZB
end Go.Proofs.YtlcphjcpoinolaaGreat
