/- Part of the proof: the walk over the program and its laws: Sn. -/
import Derived.Test.YtlcphjcpoinolaaGreatP0
import Derived.Test.YtlcphjcpoinolaaGreatP32
set_option linter.unusedVariables false
namespace Go.Proofs.YtlcphjcpoinolaaGreat
open Go.RowKit Go.Th
set_option maxRecDepth 20000
set_option maxHeartbeats 16000000 in
theorem Xyf (l:List Row) (hC:∀ x ∈ l,∀ h cs,x=.mk h cs→∀ y ∈ cs,∀ dd hh ff,y=.mk dd hh ff→SmI ff) (hbn:Bnd (XD l)):SmR l:=by
  intro d n0 ctr H hd0 hd1 hn0 hn1 hH
  have hl:=(Xej hbn).1
  refine Xv Tryz.func103 rfl rfl rfl ?_
  have hG:=Xcq hH
  repeat(first|refine Zes ?_)
  refine Xg (S:=Nat × Int) (fun s=>[(0,XD l),(1,I d),(2,.ptr ctr 0),(7,I s.1)]) (fun s G=>s.1≤l.length∧(0≤s.2∧s.2=n0 - Xas (l.take s.1))∧G[ctr]?=some (some (XjD s.2))) (fun s=>l.length - s.1) (0,n0)
    (.cons rfl (.cons rfl (.cons rfl (.cons rfl (.nil _))))) ⟨Nat.zero_le _,⟨hn0,by simp [Xas]⟩,hH⟩ ?_
  rintro ⟨i,n⟩ G ⟨hi,⟨hnn,hne⟩,hB⟩
  dsimp only at hi hnn hne hB ⊢
  have hG:=Xcq hB
  by_cases hil:i < l.length
  · obtain ⟨x,hx⟩:∃ x,l[i]?=some x:=⟨_,List.getElem?_eq_getElem hil⟩
    have hCx:=hC x (List.mem_of_getElem? hx)
    have hct:=Xhe l i x hx
    have hbh:=Xss hbn (List.mem_of_getElem? hx)
    obtain ⟨h,cs⟩:=x
    have hCx:=hCx h cs rfl
    obtain ⟨hbh,hbc⟩:=hbh h cs rfl
    have hle1:=XiT (n:=n) (by omega) (by omega) hbh
    have hhl:=Xsj hbh
    rw [Xeg] at hct
    clear hC
    repeat(first|refine Zes ?_)
    have hG1:=hG.set (k:=0) rfl (XjD (Xfg n h))
    refine XhS [G.set ctr (some (XjD (Xfg n h)))] (G.set ctr (some (XjD (Xfg n h)))) mixed (by decide +kernel) (N:=1) (by decide +kernel) rfl ?_
    repeat(first|refine Zco ?_|refine Zcp ?_|refine Y_v rfl rfl rfl (by decide) (fun _=>Xc (cells:=l.flatMap XT) rfl rfl rfl (by omega) (by exact Xmt hx)) ?_|refine Zbo ?_|refine Zdn ?_|refine Zex ?_)
    have hG:=hG1
    clear hG1 hB
    generalize Xfg n h=n1 at hG hle1 ⊢
    refine XkZ [(0,XD l),(1,I d),(2,.ptr ctr 0),(7,I i)] (.cons rfl (.cons rfl (.cons rfl (.cons rfl (.nil _))))) ?_
    generalize G.set ctr (some (XjD n1))=G at hG ⊢
    repeat(first|refine Zes ?_)
    refine Xg (S:=Nat × Int) (fun s=>[(0,XD l),(1,I d),(2,.ptr ctr 0),(7,I i),(8,I s.1)]) (fun s G=>s.1≤cs.length∧(-3458764513820540929≤s.2∧s.2=n1 - XaM (cs.take s.1))∧G[ctr]?=some (some (XjD s.2))) (fun s=>cs.length - s.1) (0,n1)
      (.cons rfl (.cons rfl (.cons rfl (.cons rfl (.cons rfl (.nil _)))))) ⟨Nat.zero_le _,⟨by simp only;omega,by simp [XaM]⟩,hG.get 0 _ _ rfl⟩ ?_
    clear hG
    rintro ⟨j,n2⟩ G ⟨hj,⟨hm2,he2⟩,hB⟩
    dsimp only at hj hm2 he2 hB ⊢
    have hG:=Xcq hB
    by_cases hjl:j < cs.length
    · obtain ⟨y,hy⟩:∃ y,cs[j]?=some y:=⟨_,List.getElem?_eq_getElem hjl⟩
      have hf:=hCx y (List.mem_of_getElem? hy)
      have hct2:=Xhh cs j y hy
      have hbh2:=Xqn hbc (List.mem_of_getElem? hy)
      obtain ⟨dd,hh,ff⟩:=y
      have hf:=hf dd hh ff rfl
      have hbh2:=hbh2 dd hh ff rfl
      have hle2:=XiT (n:=n2) hm2 (by omega) hbh2
      rw [XdR] at hct2
      clear hCx
      repeat(first|refine Zes ?_|refine ZbP ?_|refine Zdo ?_|(refine Zz ?_;intro G hG)|(refine ZI ?_;intro id G hG))
      refine Xtw 56 rfl fun hcs=>?_
      have hG1:=hG.set (k:=1) rfl (XjD (Xfg n2 hh))
      refine XhS [G.set ctr (some (XjD (Xfg n2 hh)))] (G.set ctr (some (XjD (Xfg n2 hh)))) mixed (by decide +kernel) (N:=1) (by decide +kernel) rfl ?_
      repeat(first|refine Zco ?_|refine Zcp ?_|refine Zbo ?_|refine Za9 ?_|refine Y_s 0 (by decide +kernel) rfl rfl rfl rfl (XH rfl rfl rfl (hG.get 1 _ _ rfl) rfl rfl rfl rfl rfl) rfl ?_|refine Zex ?_)
      have hG:=hG1.tail
      clear hG1 hB
      generalize Xfg n2 hh=n3 at hG hle2 ⊢
      refine XkZ [(0,XD l),(1,I d),(2,.ptr ctr 0),(7,I i),(8,I j)] (.cons rfl (.cons rfl (.cons rfl (.cons rfl (.cons rfl (.nil _)))))) ?_
      generalize G.set ctr (some (XjD n3))=G at hG ⊢
      have hB:=hG.get 0 _ _ rfl
      have hG:=Xcq hB
      by_cases c1:n3 < 0
      · repeat(first|refine Zes ?_|refine ZL ?_)
        exact XC rfl rfl ⟨false,n3,rfl,hG.get 0 _ _ rfl,fun h=>by cases h⟩
      by_cases c2:d=0
      · repeat(first|refine Zes ?_|refine ZL ?_)
        exact XC rfl rfl ⟨false,n3,rfl,hG.get 0 _ _ rfl,fun h=>by cases h⟩
      repeat(first|refine Zes ?_|refine ZbP ?_|refine Zdo ?_|refine Zbp ?_|refine ZL ?_)
      refine X5 rfl rfl rfl rfl rfl rfl (by decide) (hf (d - 1) n3 ctr _ (by omega) (by omega) (by omega) (by omega) (hG.get 0 _ _ rfl)) ?_
      rintro _ G2 ⟨b,n4,rfl,hB2,hn4⟩
      have hG:=Xcq hB2
      cases b with
      | false =>
        repeat(first|refine Zes ?_)
        exact XC rfl rfl ⟨false,n4,rfl,hB2,fun h=>by cases h⟩
      | true =>
        obtain ⟨hn4,he4⟩:=hn4 rfl
        repeat(first|refine Zes ?_)
        exact ⟨(j+1,n4),by simp only;omega,.cons rfl (.cons rfl (.cons rfl (.cons rfl (.cons rfl (.nil _))))),by simp only;omega,⟨by simp only;omega,by simp only;rw [hct2];omega⟩,hB2⟩
    · have e:j=cs.length:=by omega
      rw [e,List.take_length] at he2
      repeat(first|refine Zes ?_|refine ZbP ?_|refine Z7 ?_|refine ZL ?_)
      by_cases c1:n2 < 0
      · repeat(first|refine Zes ?_)
        exact XC rfl rfl ⟨false,n2,rfl,hB,fun h=>by cases h⟩
      · repeat(first|refine Zes ?_)
        exact ⟨(i+1,n2),by simp only;omega,.cons rfl (.cons rfl (.cons rfl (.cons rfl (.nil _)))),by simp only;omega,⟨by simp only;omega,by simp only;rw [hct];omega⟩,hB⟩
  · have e:i=l.length:=by omega
    rw [e,List.take_length] at hne
    repeat(first|refine Zes ?_)
    exact XC rfl rfl ⟨true,n,rfl,hB,fun _=>⟨hnn,hne⟩⟩
end Go.Proofs.YtlcphjcpoinolaaGreat
