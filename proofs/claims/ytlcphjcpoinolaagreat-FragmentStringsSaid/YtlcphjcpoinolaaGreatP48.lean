/- Part of the proof: the walk over the program and its laws: Ql Lc. -/
import Derived.Test.YtlcphjcpoinolaaGreatP0
import Derived.Test.YtlcphjcpoinolaaGreatP41
import Derived.Test.YtlcphjcpoinolaaGreatP32
import Derived.Test.YtlcphjcpoinolaaGreatP45
import Derived.Test.YtlcphjcpoinolaaGreatP14
import Derived.Test.YtlcphjcpoinolaaGreatP47
import Derived.Test.YtlcphjcpoinolaaGreatP33
set_option linter.unusedVariables false
namespace Go.Proofs.YtlcphjcpoinolaaGreat
open Go.RowKit Go.Th
set_option maxRecDepth 20000
def XlL (h:Head):Bool:=if h.ins≠0 then true else if h.move≠0 then true else decide ((0:Int) < h.dels.length)
def XwD (e1 e2:Int) (d:Doc):Int :=
  if XaA [e1,e2]=0 then
    (if XaA [Xcb (XlI d) 3 d.fin,Xbv (XlL d.fin) 21]=0 then
      (if (Xa6 d.flow ⟨true,false,0⟩ (XlI d)).1=0 then Xbv (decide ((16384:Int) < (Xa6 d.flow ⟨true,false,0⟩ (XlI d)).2.units)) 9 else (Xa6 d.flow ⟨true,false,0⟩ (XlI d)).1)
    else XaA [Xcb (XlI d) 3 d.fin,Xbv (XlL d.fin) 21])
  else XaA [e1,e2]
set_option maxHeartbeats 64000000 in
theorem XkT (d:Doc) (hc:Xz d.flow≤300) (hh:HeadOk d.fin) (hl1:d.sets.styles.length≤1000000) (hl2:d.sets.lists.length≤1000000) (hl3:d.revs.length≤1000000) (e1 e2:Int)
    (h46:Iso Tryz.prog 46 [.agg (XaW d.sets)] (fun p=>p=I e1)) (h47:Iso Tryz.prog 47 [XdA d.revs] (fun p=>p=I e2)) (td:∀ c ∈ X3 d,Xi c) (ts:∀ c ∈ XaW d.sets,Xi c) (tr:Xi (XdA d.revs)):Iso Tryz.prog 19 [.agg (X3 d)] (fun p=>p=I (XwD e1 e2 d)):=by
  have hG:=Xc
  obtain ⟨q,hq⟩:∃ q,XwD e1 e2 d=q:=⟨_,rfl⟩
  rw [hq]
  unfold XwD at hq
  have hI:=Xbn [e1,e2] (by simp)
  have tI:∀ c ∈ [Xc0 [e1,e2]],Xi c:=TreeL.cons (XW _) TreeL.nil
  refine Xb Tryz.func19 rfl rfl rfl ?_
  refine Zc ?_
  refine Zb ?_
  repeat(first|refine Zd ?_|(refine ZI ?_;intro id G hG))
  refine Za ?_
  refine ZaE ?_
  clear hG
  intro G hG
  obtain ⟨H1,e3⟩:∃ X,X=G++[some (Blk.mk [I e1,I e2] 29 true)]:=⟨_,rfl⟩
  have hG1:=hG.new (Blk.mk [I e1,I e2] 29 true)
  rw [← e3] at hG1
  repeat refine X4 ?_
  refine Z7 ?_
  repeat(first|refine Y_k rfl rfl rfl (by decide) (fun _=>Iso.K rfl rfl rfl rfl h46 (TreeL.cons (Xi.agg ts) TreeL.nil)) ?_|refine Y_k rfl rfl rfl (by decide) (fun _=>Iso.K rfl rfl rfl rfl h47 (TreeL.cons tr TreeL.nil)) ?_|refine ZaT ?_|refine Zaw ?_|refine Zak ?_|refine Zd6 ?_)
  have hG:=hG1.tail
  clear hG1 e3 hI tI h46 h47
  generalize XaA [e1,e2]=e at hq ⊢
  by_cases e0:e=0
  rotate_left
  · rw [if_neg e0] at hq
    repeat(first|refine Zd1 ?_)
    exact XJ rfl rfl (.refl _) (.v _) (by rw [← hq];rfl)
  rw [if_pos e0] at hq
  repeat(first|refine Zd1 ?_)
  refine X0 rfl rfl rfl rfl rfl rfl (by decide) (Xi3 d hl1 hl2 hl3 _ _ hG) ?_
  rintro _ G ⟨c,rfl,hck⟩
  generalize XlI d=s at hck hq
  obtain ⟨es,el,er,eb,eu,ts',tl',tr',tb,tu,hG,a1,a2,a3,a4,a5,ae⟩:=hck
  repeat(first|refine Zd1 ?_|(refine ZA ?_;intro G hG)|(refine ZD ?_;intro id G hG))
  refine XD 5 hG rfl ?_
  clear hG
  intro G hG
  have hck:CkH c s [] G:=⟨es,el,er,eb,eu,ts',tl',tr',tb,tu,hG,a1,a2,a3,a4,a5,ae⟩
  clear hG a1 a2 a3 a4 a5 ae
  have hA:=XjD (XeT.refl s) hck (fun K G hc=>Xjc c s K G hc 3 d.fin hh)
  rw [Xm1 hck] at hA
  obtain ⟨x,hx⟩:∃ x,Xcb s 3 d.fin=x:=⟨_,rfl⟩
  obtain ⟨y,hy⟩:∃ y,Xbv (XlL d.fin) 21=y:=⟨_,rfl⟩
  rw [hx] at hA
  rw [hx,hy] at hq
  have hI:=Xbn [x,y] (by simp)
  have tI:∀ c ∈ [Xc0 [x,y]],Xi c:=TreeL.cons (XW _) TreeL.nil
  obtain ⟨H1,e3⟩:∃ X,X=G++[some (Blk.mk [I x,I y] 29 true)]:=⟨_,rfl⟩
  have hck1:CkH c s [(G.length,Blk.mk [I x,I y] 29 true)] H1:=by
    obtain ⟨es,el,er,eb,eu,ts',tl',tr',tb,tu,hG,a1,a2,a3,a4,a5,ae⟩:=hck
    rw [e3]
    exact ⟨es,el,er,eb,eu,ts',tl',tr',tb,tu,Has.swap6 [(G.length,Blk.mk [I x,I y] 29 true)] (hG.new _),a1,a2,a3,a4,a5,ae⟩
  have hG1:Has H1 [(G.length,Blk.mk [I x,I y] 29 true)]:=by
    obtain ⟨es,el,er,eb,eu,ts',tl',tr',tb,tu,hG,_⟩:=hck1
    exact hG.tail.tail.tail.tail.tail.tail
  have hW:=Xbi (XlL d.fin) 21
  rw [hy] at hW
  have tW:∀ c ∈ [B (XlL d.fin),I 21],Xi c:=TreeL.cons (XcJ _) (TreeL.cons (Xe _) TreeL.nil)
  repeat refine X4 ?_
  refine Xcw (S:=Unit) (fun _=>[(1,.ept (X3 d) 0),(4,.ptr c.ic 0),(6,I (XaA [x,y]))]) (fun _ G=>CkH c s [] G) ?_ ?_
  · unfold XlL at hW tW
    by_cases m1:d.fin.ins=0
    · rw [if_neg (fun h=>h m1)] at hW tW
      by_cases m2:d.fin.move=0
      · rw [if_neg (fun h=>h m2)] at hW tW
        refine Z7 ?_
        repeat(first|refine ZcP ?_|refine Za3 ?_|refine ZaT ?_|refine Zaw ?_|refine ZdP ?_|refine Zd6 ?_|refine ZdQ ?_|refine Xxb (fun _=>XP rfl rfl rfl (congrArg some (Xb5 (by omega)))) rfl (by decide) rfl rfl rfl rfl (by decide) ?_|refine Xxb (fun _=>XP rfl rfl rfl rfl) rfl (by decide) rfl rfl rfl rfl (by decide) ?_|refine Xxb (fun _=>XdS rfl rfl rfl) rfl (by decide) rfl rfl rfl rfl (by decide) ?_|refine ZdR ?_|refine ZdS ?_)
        exact ZcQ
      · rw [if_pos m2] at hW tW
        refine Z7 ?_
        repeat(first|refine ZcP ?_|refine Za3 ?_|refine ZaT ?_|refine Zaw ?_|refine ZdP ?_|refine Zd6 ?_|refine ZdT ?_|refine ZdQ ?_|refine Xxb (fun _=>XP rfl rfl rfl (congrArg some (Xb4 (by omega)))) rfl (by decide) rfl rfl rfl rfl (by decide) ?_|refine ZdR ?_|refine ZdS ?_|refine ZW ?_)
        exact ZcQ
    · rw [if_pos m1] at hW tW
      refine Z7 ?_
      repeat(first|refine ZcP ?_|refine Za3 ?_|refine ZaT ?_|refine Zaw ?_|refine Y_v rfl rfl rfl (by decide) (fun _=>XP rfl rfl rfl (congrArg some (Xb4 (by omega)))) ?_|refine Zd6 ?_|refine ZdT ?_|refine ZW ?_)
      exact ZcQ
  clear hG1 hck1 e3 hI tI hA hck hW tW
  rintro _ G hck
  generalize XaA [x,y]=e at hq ⊢
  by_cases e1:e=0
  rotate_left
  · rw [if_neg e1] at hq
    repeat(first|refine Zd1 ?_)
    exact XJ rfl rfl (.refl _) (.v _) (by rw [← hq])
  rw [if_pos e1] at hq
  have hit:=Xog d.flow hc ⟨true,false,0⟩ c s [] G hck
  generalize Xa6 d.flow ⟨true,false,0⟩ s=r at hq hit
  obtain ⟨r1,r2⟩:=r
  dsimp only at hq hit
  repeat(first|refine Zd1 ?_|(refine X0 rfl rfl rfl rfl rfl rfl (by decide) hit ?_;rintro _ G ⟨rfl,hck⟩)|refine Z8 ?_|refine Z5 ?_)
  clear hit
  by_cases e2:r1=0
  rotate_left
  · rw [if_neg e2] at hq
    repeat(first|refine Zd1 ?_)
    exact XJ rfl rfl (.refl _) (.v _) (by rw [← hq])
  rw [if_pos e2] at hq
  obtain ⟨es,el,er,eb,eu,ts',tl',tr',tb,tu,hG,a1,a2,a3,a4,a5,ae⟩:=hck
  have hW:=Xbi (decide ((16384:Int) < r2.units)) 9
  have tW:∀ c ∈ [B (decide ((16384:Int) < r2.units)),I 9],Xi c:=TreeL.cons (XcJ _) (TreeL.cons (Xe _) TreeL.nil)
  rw [hq] at hW
  repeat(first|refine Zd1 ?_|refine Z8 ?_|(refine Zcq ?_;rintro _ rfl)|refine Zad ?_)
  exact ZE
end Go.Proofs.YtlcphjcpoinolaaGreat
namespace Go.Proofs.YtlcphjcpoinolaaGreat
open Go.RowKit Go.Th
set_option maxRecDepth 20000
end Go.Proofs.YtlcphjcpoinolaaGreat
