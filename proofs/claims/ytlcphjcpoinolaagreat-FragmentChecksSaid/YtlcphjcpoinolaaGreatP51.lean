/- Part of the proof: the walk over the program and its laws: Mb. -/
import Derived.Test.YtlcphjcpoinolaaGreatP0
import Derived.Test.YtlcphjcpoinolaaGreatP50
set_option linter.unusedVariables false
namespace Go.Proofs.YtlcphjcpoinolaaGreat
open Go.RowKit Go.Th
set_option maxRecDepth 20000
theorem XcW (h:Head):Iso Tryz.prog 69 [.agg (XL h)] (fun p=>p=.agg (XL h)):=by
  have hG:=Xd
  refine Xb Tryz.func69 rfl rfl rfl ?_
  repeat(first|refine Zes ?_|refine ZS ?_|(refine Zz ?_;intro G hG)|(refine ZI ?_;intro id G hG)|(refine ZH ?_;intro id G hG))
  exact Zdt
section
variable {σ:Type} (W:Nat→σ→List (Nat × Blk)→Prop) (kS:σ→Item→σ) (iS:σ→Int→σ) (gi gn:FuncId) (ci cn:List PV)
def reP (gi:FuncId) (ci:List PV) (gn:FuncId) (cn:List PV):List PV:=[.fn (.func 69) [],.fn (.func gi) ci,.fn (.func gn) cn]
abbrev XA5 (l:List Item):Prop:=∀ (n:Nat) (top:Bool) (s:σ) (A:List (Nat × Blk)) (G:Xi) (K:List (Nat × Blk)),W (n+Xw l) s A→Has G (A++K) →
  AC Tryz.prog 72 [.agg (reP gi ci gn cn),Xh l,B top] G (fun p G'=>(∃ o,p=.sl o 0 l.length 11)∧∃ A',W n (Xa1 kS iS s l) A'∧Has G' (A'++K))
end
set_option maxHeartbeats 64000000 in
theorem Xnu {σ:Type} (W:Nat→σ→List (Nat × Blk)→Prop) (hmono:∀ (a b:Nat) (s:σ) (A:List (Nat × Blk)),a≤b→W b s A→W a s A) (kS:σ→Item→σ) (iS:σ→Int→σ) (gi gn:FuncId) (ci cn:List PV) (uI:List (Nat × Blk)→Item→Xi→Xi) (uN:List (Nat × Blk)→Int→Xi→Xi)
    (hI:∀ (n:Nat) (s:σ) (A:List (Nat × Blk)) (G:Xi) (K:List (Nat × Blk)) (x:Item) (top:Bool),W n s A→Has G (A++K)→AC Tryz.prog gi ([.agg (Xo x),B top]++ci) G (fun p G'=>p=.tup [.agg (Xo x),B true]∧G'=uI A x G))
    (hI2:∀ (n:Nat) (s:σ) (A:List (Nat × Blk)) (G:Xi) (K:List (Nat × Blk)) (x:Item),W n s A→Has G (A++K)→∃ A',W n (kS s x) A'∧Has (uI A x G) (A'++K))
    (hN:∀ (n:Nat) (s:σ) (A:List (Nat × Blk)) (G:Xi) (K:List (Nat × Blk)) (i:Int),W (n+1) s A→Has G (A++K)→AC Tryz.prog gn ([I i]++cn) G (fun p G'=>p=I i∧G'=uN A i G))
    (hN2:∀ (n:Nat) (s:σ) (A:List (Nat × Blk)) (G:Xi) (K:List (Nat × Blk)) (i:Int),W (n+1) s A→Has G (A++K)→∃ A',W n (iS s i) A'∧Has (uN A i G) (A'++K))
    (l:List Item) (hc:Xw l≤300) (hM:∀ x ∈ l,∀ k c i t h f r,x=.mk k c i t h f r→XA5 W kS iS gi gn ci cn f∧∀ y ∈ r,∀ h cs,y=.mk h cs→∀ z ∈ cs,∀ i hh f,z=.mk i hh f→XA5 W kS iS gi gn ci cn f):XA5 W kS iS gi gn ci cn l:=by
  intro n top s A G K hW hG
  have hll:=XaK l
  obtain ⟨q,hq⟩:∃ q,Xa1 kS iS s l=q:=⟨_,rfl⟩
  rw [hq]
  refine Xv Tryz.func72 rfl rfl rfl ?_
  refine Zc ?_
  refine Zb ?_
  repeat(first|refine Zd ?_|(refine ZH ?_;intro id G hG))
  refine Za ?_
  refine Xz (C:=⟨reP gi ci gn cn,149,true⟩) 3 hG rfl ?_
  clear hG
  intro G hG
  repeat(first|refine Zes ?_)
  refine X1 7 46 11 hG rfl ?_
  clear hG
  intro o G hG
  refine Xg (S:=Nat × Nat × σ × List (Nat × Blk) × List PV) (fun x=>[(1,Xh l),(2,B top),(3,.ept (reP gi ci gn cn) 0),(7,.sl x.2.1 0 x.1 11),(8,I x.1)])
    (fun x G=>x.1≤l.length∧x.2.2.2.2.length=x.1 * 11∧W (n+Xw (l.drop x.1)) x.2.2.1 x.2.2.2.1∧Xa1 kS iS x.2.2.1 (l.drop x.1)=q∧Has G ((x.2.1,⟨x.2.2.2.2,46,true⟩)::(x.2.2.2.1++K))) (fun x=>l.length - x.1) (0,o,s,A,[])
    (.cons rfl (.cons rfl (.cons rfl (.cons rfl (.cons rfl (.nil _)))))) ⟨Nat.zero_le _,rfl,hW,hq,hG⟩ ?_
  clear hG hW hq
  rintro ⟨i,o,s,A,cells⟩ G ⟨hi,hcl,hW,hf,hG⟩
  dsimp only at hi hcl hW hf hG ⊢
  by_cases hil:i < l.length
  rotate_left
  · have ei:i=l.length:=by omega
    subst ei
    rw [List.drop_length,Xa1] at hf
    rw [List.drop_length,Xw] at hW
    subst hf
    repeat(first|refine Zes ?_)
    exact XC rfl rfl ⟨⟨_,rfl⟩,A,hW,hG.tail⟩
  obtain ⟨x,hx⟩:∃ x,l[i]?=some x:=⟨_,List.getElem?_eq_getElem hil⟩
  have ho:=Xp X4 l i x hx
  have hxm:=List.mem_of_getElem? hx
  have hMx:=hM x hxm
  have hxc:=Xce hxm
  rw [X2 hx,Xa1] at hf
  rw [X2 hx,Xw] at hW
  clear hM
  have hk:=fun G K hG=>hI _ s A G K x top hW hG
  have hk2:=fun G K hG=>hI2 _ s A G K x hW hG
  obtain ⟨k,c,d,t,h,f,r⟩:=x
  obtain ⟨hf1,hf2⟩:=hMx _ _ _ _ _ _ _ rfl
  rw [XpT] at hf
  generalize kS s (.mk k c d t h f r)=s1 at hf hk2
  generalize uI A (.mk k c d t h f r)=u at hk hk2
  rw [XbG] at hxc hk2
  obtain ⟨nr,hnr⟩:∃ nr,Xw (l.drop (i+1))=nr:=⟨_,rfl⟩
  rw [hnr] at hk2
  rw [XG] at ho hk
  have hhd:=XcW h
  have hrl:=XbM r
  have th:∀ c ∈ [PV.agg (XL h)],Xk c:=TreeL.cons (Xk.agg (X6 _)) TreeL.nil
  clear hMx hx hxm
  repeat(first|refine Zez ?_|refine Zv ?_)
  refine Zj ?_
  refine Zc ?_
  refine Xmc 11 [7] ⟨[I 0,I 0,I 0,S .empty,XaQ,I 0,I 0,XaQ,XaQ,XaQ,XaQ],46,true⟩ hG mixed (by decide +kernel) (N:=2) (by decide +kernel) ?_
  clear hG
  intro b9 G hG
  have hG:Has G ([(b9,⟨[I 0,I 0,I 0,S .empty,XaQ,I 0,I 0,XaQ,XaQ,XaQ,XaQ],46,true⟩),(o,⟨cells,46,true⟩)]++(A++K)):=hG
  have hk:=hk G _ hG.swapL
  obtain ⟨A1,hW1,hG1⟩:=hk2 G _ hG.swapL
  have hG1:Has (u G) ([(b9,⟨[I 0,I 0,I 0,S .empty,XaQ,I 0,I 0,XaQ,XaQ,XaQ,XaQ],46,true⟩),(o,⟨cells,46,true⟩)]++(A1++K)):=hG1.swapL
  obtain ⟨H1,e1⟩:∃ X,X=u G:=⟨_,rfl⟩
  rw [← e1] at hk hG1
  obtain ⟨H2,e2⟩:∃ X,X=H1.set b9 (some ⟨[I k,I c,I d,S t,Xf h.props,I h.ins,I h.move,Xm h.dels,Xl h.lyrs,Xh f,XD r],46,true⟩):=⟨_,rfl⟩
  have hG2:=hG1.set (k:=0) rfl ⟨[I k,I c,I d,S t,Xf h.props,I h.ins,I h.move,Xm h.dels,Xl h.lyrs,Xh f,XD r],46,true⟩
  rw [← e2] at hG2
  clear hk2 e1
  refine ⟨[H1,H2],H2,rfl,?_⟩
  repeat(first|refine Zb6 ?_|refine ZdX ?_|refine F_c 0 rfl (by decide +kernel) rfl rfl rfl rfl (by decide) (AC.K rfl rfl rfl rfl hk) rfl ?_|refine F_v rfl rfl rfl rfl (by decide) (fun _=>Xch rfl rfl rfl) ?_|refine F_f2 0 rfl rfl (by decide +kernel) (by decide +kernel) rfl rfl rfl rfl (by decide) (Xfp rfl rfl) (hG.get 0 _ _ rfl) (hG1.get 0 _ _ rfl) ?_|refine Zek ?_|refine Zey ?_)
  clear hk hG hG1 hhd e2
  have hW:=hW1
  have hG:Has H2 ((b9,⟨[I k,I c,I d,S t,Xf h.props,I h.ins,I h.move,Xm h.dels,Xl h.lyrs,Xh f,XD r],46,true⟩)::(o,⟨cells,46,true⟩)::(A1++K)):=hG2
  clear hG2 hW1
  have hhd:=XcW h
  refine Zc ?_
  refine Zc ?_
  refine Zb ?_
  repeat(first|refine Zet ?_)
  refine Za ?_
  refine Zaz ?_
  refine Zn ?_
  refine Zc ?_
  refine Zb ?_
  repeat(first|(refine Zb4 ?_;rintro _ rfl)|refine Zet ?_|(refine Zz ?_;intro G hG))
  refine Za ?_
  have hG:Has G ((b9,⟨[I k,I c,I d,S t,Xf h.props,I h.ins,I h.move,Xm h.dels,Xl h.lyrs,Xh f,XD r],46,true⟩)::(o,⟨cells,46,true⟩)::(A1++K)):=hG
  clear hhd th
  have hW1:=hmono (n+nr+Xas r+Xw f+1) _ _ _ (by omega) hW
  have hW:=hmono (n+nr+Xas r+Xw f) _ _ _ (by omega) hW
  have hn:=fun G K hG=>hN _ s1 A1 G K d hW1 hG
  have hn2:=fun G K hG=>hN2 _ s1 A1 G K d hW1 hG
  obtain ⟨s2,hs2⟩:∃ s2,(if k=6∨k=7 then iS s1 d else s1)=s2:=⟨_,rfl⟩
  rw [hs2] at hf
  refine Zc ?_
  refine Xcx (S:=List (Nat × Blk)) (fun _=>[(1,Xh l),(2,B top),(3,.ept (reP gi ci gn cn) 0),(7,.sl o 0 i 11),(8,I i),(9,.ptr b9 0)]) (fun A2 G=>W (n+nr+Xas r+Xw f) s2 A2∧Has G ((b9,⟨[I k,I c,I d,S t,Xf h.props,I h.ins,I h.move,Xm h.dels,Xl h.lyrs,Xh f,XD r],46,true⟩)::(o,⟨cells,46,true⟩)::(A2++K))) ?_ ?_
  · by_cases k6:k=6
    · rw [if_pos (.inl k6)] at hs2
      rw [hs2] at hn2
      repeat(first|refine Zez ?_)
      obtain ⟨A2,hW2,hG2⟩:=hn2 _ _ (Has.swapL (A:=[(b9,⟨[I k,I c,I d,S t,Xf h.props,I h.ins,I h.move,Xm h.dels,Xl h.lyrs,Xh f,XD r],46,true⟩),(o,⟨cells,46,true⟩)]) hG)
      refine Zel ?_
      rintro _ _ ⟨rfl,rfl⟩
      have hG:Has _ ((b9,⟨[I k,I c,I d,S t,Xf h.props,I h.ins,I h.move,Xm h.dels,Xl h.lyrs,Xh f,XD r],46,true⟩)::(o,⟨cells,46,true⟩)::(A2++K)):=Has.swapL (B:=[(b9,⟨[I k,I c,I d,S t,Xf h.props,I h.ins,I h.move,Xm h.dels,Xl h.lyrs,Xh f,XD r],46,true⟩),(o,⟨cells,46,true⟩)]) hG2
      clear hG2
      repeat(first|refine Zes ?_|(refine Zz ?_;intro G hG))
      exact Zem
    · by_cases k7:k=7
      · rw [if_pos (.inr k7)] at hs2
        rw [hs2] at hn2
        repeat(first|refine Zez ?_)
        obtain ⟨A2,hW2,hG2⟩:=hn2 _ _ (Has.swapL (A:=[(b9,⟨[I k,I c,I d,S t,Xf h.props,I h.ins,I h.move,Xm h.dels,Xl h.lyrs,Xh f,XD r],46,true⟩),(o,⟨cells,46,true⟩)]) hG)
        refine Zel ?_
        rintro _ _ ⟨rfl,rfl⟩
        have hG:Has _ ((b9,⟨[I k,I c,I d,S t,Xf h.props,I h.ins,I h.move,Xm h.dels,Xl h.lyrs,Xh f,XD r],46,true⟩)::(o,⟨cells,46,true⟩)::(A2++K)):=Has.swapL (B:=[(b9,⟨[I k,I c,I d,S t,Xf h.props,I h.ins,I h.move,Xm h.dels,Xl h.lyrs,Xh f,XD r],46,true⟩),(o,⟨cells,46,true⟩)]) hG2
        clear hG2
        repeat(first|refine Zes ?_|(refine Zz ?_;intro G hG))
        exact Zem
      · rw [if_neg (fun h=>h.elim k6 k7)] at hs2
        subst hs2
        repeat(first|refine Zes ?_|refine ZY ?_)
        exact ⟨A1,.cons rfl (.cons rfl (.cons rfl (.cons rfl (.cons rfl (.cons rfl (.nil _)))))),hW,hG⟩
  clear hG hn hn2 hs2 hW hW1
  rintro A G ⟨hW,hG⟩
  have hm:=hf1 _ false s2 A G _ hW (Has.swapL (A:=[(b9,⟨[I k,I c,I d,S t,Xf h.props,I h.ins,I h.move,Xm h.dels,Xl h.lyrs,Xh f,XD r],46,true⟩),(o,⟨cells,46,true⟩)]) hG)
  clear hf1 hW
  generalize Xa1 kS iS s2 f=s3 at hf hm
  repeat(first|refine Zez ?_)
  refine ZbH ?_
  rintro _ G ⟨⟨of,rfl⟩,A,hW,hG⟩
  have hG:Has G ((b9,⟨[I k,I c,I d,S t,Xf h.props,I h.ins,I h.move,Xm h.dels,Xl h.lyrs,Xh f,XD r],46,true⟩)::(o,⟨cells,46,true⟩)::(A++K)):=Has.swapL (B:=[(b9,⟨[I k,I c,I d,S t,Xf h.props,I h.ins,I h.move,Xm h.dels,Xl h.lyrs,Xh f,XD r],46,true⟩),(o,⟨cells,46,true⟩)]) hG
  clear hm
  repeat(first|refine Zez ?_|(refine Zz ?_;intro G hG))
  have hG:Has G ((b9,⟨[I k,I c,I d,S t,Xf h.props,I h.ins,I h.move,Xm h.dels,Xl h.lyrs,.sl of 0 f.length 11,XD r],46,true⟩)::(o,⟨cells,46,true⟩)::(A++K)):=hG
  refine X1 11 94 6 hG rfl ?_
  clear hG
  intro orow G hG
  refine Zj ?_
  refine Xg (S:=Nat × Nat × σ × List (Nat × Blk) × List PV) (fun x=>[(1,Xh l),(2,B top),(3,.ept (reP gi ci gn cn) 0),(7,.sl o 0 i 11),(8,I i),(9,.ptr b9 0),(11,.sl x.2.1 0 x.1 6),(12,I x.1)])
    (fun x G=>x.1≤r.length∧x.2.2.2.2.length=x.1 * 6∧W (n+nr+Xas (r.drop x.1)) x.2.2.1 x.2.2.2.1∧Xa1 kS iS (Xdc kS iS x.2.2.1 (r.drop x.1)) (l.drop (i+1))=q∧Has G ((x.2.1,⟨x.2.2.2.2,94,true⟩)::(b9,⟨[I k,I c,I d,S t,Xf h.props,I h.ins,I h.move,Xm h.dels,Xl h.lyrs,.sl of 0 f.length 11,XD r],46,true⟩)::(o,⟨cells,46,true⟩)::(x.2.2.2.1++K))) (fun x=>r.length - x.1) (0,orow,s3,A,[])
    (.cons rfl (.cons rfl (.cons rfl (.cons rfl (.cons rfl (.cons rfl (.cons rfl (.cons rfl (.nil _))))))))) ⟨Nat.zero_le _,rfl,hW,hf,hG⟩ ?_
  clear hG hW hf
  rintro ⟨j,orow,s,A,cr⟩ G ⟨hj,hcr,hW,hf,hG⟩
  dsimp only at hj hcr hW hf hG ⊢
  by_cases hjl:j < r.length
  rotate_left
  · rw [List.drop_eq_nil_of_le (by omega),Xdc] at hf
    rw [List.drop_eq_nil_of_le (by omega),Xas,Nat.add_zero,← hnr] at hW
    clear hf2
    repeat(first|refine Zes ?_|refine ZJ ?_|(refine Zeh ?_;intro o2 G hG)|refine ZS ?_|(refine ZaP ?_;intro G hG)|(refine ZO ?_;intro id G hG))
    exact Zei
  obtain ⟨x,hx⟩:∃ x,r[j]?=some x:=⟨_,List.getElem?_eq_getElem hjl⟩
  have ho:=Xp Xaq r j x hx
  have hxm:=List.mem_of_getElem? hx
  have hyc:=Xcd hxm
  have hf3:=hf2 x hxm
  rw [X2 hx] at hf hW
  obtain ⟨h2,cs⟩:=x
  rw [Xas] at hW
  rw [Xeg] at hyc hW
  have hW:=hmono (n+nr+Xas (r.drop (j+1))+XaM cs) _ _ _ (by omega) hW
  have hcsl:=XbN cs
  rw [Xdc] at hf
  rw [X0] at ho
  have hhd:=XcW h2
  have th:∀ c ∈ [PV.agg (XL h2)],Xk c:=TreeL.cons (Xk.agg (X6 _)) TreeL.nil
  clear hx
  repeat(first|refine Zez ?_|refine Zv ?_|refine ZS ?_)
  refine Zj ?_
  refine Zc ?_
  refine Xtv 10 ⟨[XaQ,I 0,I 0,XaQ,XaQ,XaQ],94,true⟩ hG mixed (by decide +kernel) (N:=1) (by decide +kernel) ?_
  clear hG
  intro b13 G hG
  obtain ⟨H1,e1⟩:∃ X,X=G.set b13 (some ⟨[Xf h2.props,I h2.ins,I h2.move,Xm h2.dels,Xl h2.lyrs,XaQ],94,true⟩):=⟨_,rfl⟩
  have hG1:=hG.set (k:=0) rfl ⟨[Xf h2.props,I h2.ins,I h2.move,Xm h2.dels,Xl h2.lyrs,XaQ],94,true⟩
  rw [← e1] at hG1
  refine ⟨[H1],H1,rfl,?_⟩
  repeat(first|refine Zb6 ?_|refine Xw0 0 rfl (by decide +kernel) (by decide +kernel) rfl rfl rfl rfl (by decide) (Xj rfl rfl (hG.get 2 _ _ rfl) rfl) ?_|refine F_v rfl rfl rfl rfl (by decide) (fun _=>Xc (cells:=r.flatMap XT) rfl rfl rfl (by omega) (by exact ho)) ?_|refine F_k rfl rfl rfl rfl (by decide) (fun _=>Iso.K rfl rfl rfl rfl hhd th) ?_|refine Zdm ?_|refine F_s 0 rfl (by decide +kernel) rfl rfl rfl rfl (XH rfl rfl rfl (hG.get 0 _ _ rfl) rfl rfl rfl rfl rfl) e1 ?_|refine Zey ?_|refine Zcv ?_)
  have hG:Has H1 ((b13,⟨[Xf h2.props,I h2.ins,I h2.move,Xm h2.dels,Xl h2.lyrs,XaQ],94,true⟩)::(orow,⟨cr,94,true⟩)::(b9,⟨[I k,I c,I d,S t,Xf h.props,I h.ins,I h.move,Xm h.dels,Xl h.lyrs,.sl of 0 f.length 11,XD r],46,true⟩)::(o,⟨cells,46,true⟩)::(A++K)):=hG1
  clear hG1 e1 hhd th
  refine XcD 0 5 96 7 hG rfl rfl ?_
  clear hG
  intro oc G hG
  have hG:Has G ((b13,⟨[Xf h2.props,I h2.ins,I h2.move,Xm h2.dels,Xl h2.lyrs,.sl oc 0 0 7],94,true⟩)::(oc,⟨[],96,true⟩)::(orow,⟨cr,94,true⟩)::(b9,⟨[I k,I c,I d,S t,Xf h.props,I h.ins,I h.move,Xm h.dels,Xl h.lyrs,.sl of 0 f.length 11,XD r],46,true⟩)::(o,⟨cells,46,true⟩)::(A++K)):=hG.perm (List.Perm.swap _ _ _)
  repeat(first|refine Zes ?_)
  refine Xg (S:=Nat × Nat × σ × List (Nat × Blk) × List PV) (fun x=>[(1,Xh l),(2,B top),(3,.ept (reP gi ci gn cn) 0),(7,.sl o 0 i 11),(8,I i),(9,.ptr b9 0),(11,.sl orow 0 j 6),(12,I j),(13,.ptr b13 0),(14,I x.1)])
    (fun x G=>x.1≤cs.length∧x.2.2.2.2.length=x.1 * 7∧W (n+nr+Xas (r.drop (j+1))+XaM (cs.drop x.1)) x.2.2.1 x.2.2.2.1∧Xa1 kS iS (Xdc kS iS (Xea kS iS x.2.2.1 (cs.drop x.1)) (r.drop (j+1))) (l.drop (i+1))=q∧Has G ((b13,⟨[Xf h2.props,I h2.ins,I h2.move,Xm h2.dels,Xl h2.lyrs,.sl x.2.1 0 x.1 7],94,true⟩)::(x.2.1,⟨x.2.2.2.2,96,true⟩)::(orow,⟨cr,94,true⟩)::(b9,⟨[I k,I c,I d,S t,Xf h.props,I h.ins,I h.move,Xm h.dels,Xl h.lyrs,.sl of 0 f.length 11,XD r],46,true⟩)::(o,⟨cells,46,true⟩)::(x.2.2.2.1++K))) (fun x=>cs.length - x.1) (0,oc,s,A,[])
    (.cons rfl (.cons rfl (.cons rfl (.cons rfl (.cons rfl (.cons rfl (.cons rfl (.cons rfl (.cons rfl (.cons rfl (.nil _))))))))))) ⟨Nat.zero_le _,rfl,hW,hf,hG⟩ ?_
  clear hG hW hf
  rintro ⟨u,oc,s,A,cc⟩ G ⟨hu,hcc,hW,hf,hG⟩
  dsimp only at hu hcc hW hf hG ⊢
  by_cases hul:u < cs.length
  rotate_left
  · rw [List.drop_eq_nil_of_le (by omega),Xea] at hf
    rw [show cs.drop u=[] from List.drop_eq_nil_of_le (by omega),XaM,Nat.add_zero] at hW
    clear hf2 hf3
    repeat(first|refine Zes ?_|refine ZJ ?_|refine Zbk ?_|(refine Xau 3 hG rfl rfl (by decide) rfl rfl rfl rfl rfl rfl hcr rfl (hG.cellsOf (k:=0) rfl rfl) rfl (by omega) (by omega) ?_;intro o2 G hG)|refine ZbN ?_|(refine ZO ?_;intro id G hG))
    exact ⟨(j+1,o2,s,A,cr++[Xf h2.props,I h2.ins,I h2.move,Xm h2.dels,Xl h2.lyrs,.sl oc 0 u 7]),by dsimp only;omega,.cons rfl (.cons rfl (.cons rfl (.cons rfl (.cons rfl (.cons rfl (.cons rfl (.cons rfl (.nil _)))))))),by dsimp only;omega,by dsimp only;rw [List.length_append,hcr];simp only [List.length_cons,List.length_nil];omega,hW,hf,hG.tail.tail.tail⟩
  obtain ⟨x,hx⟩:∃ x,cs[u]?=some x:=⟨_,List.getElem?_eq_getElem hul⟩
  have ho3:=Xp Xai cs u x hx
  have hxm3:=List.mem_of_getElem? hx
  have hzc:=Xcf hxm3
  have hm3:=hf3 _ _ rfl x hxm3
  rw [X2 hx] at hf hW
  obtain ⟨d3,h3,f3⟩:=x
  rw [XaM,XdR] at hW
  have hW:=hmono (n+nr+Xas (r.drop (j+1))+XaM (cs.drop (u+1))+Xw f3+1) _ _ _ (by omega) hW
  have hn:=fun G K hG=>hN _ s A G K d3 hW hG
  have hn2:=fun G K hG=>hN2 _ s A G K d3 hW hG
  rw [XdR] at hzc
  rw [Xea] at hf
  generalize iS s d3=s4 at hf hn2
  have hm3:=fun A=>hm3 _ _ _ rfl (n+nr+Xas (r.drop (j+1))+XaM (cs.drop (u+1))) false s4 A
  rw [XW] at ho3
  generalize Xa1 kS iS s4 f3=s5 at hf hm3
  generalize uN A d3=un at hn hn2
  have hhd:=XcW h3
  have th:∀ c ∈ [PV.agg (XL h3)],Xk c:=TreeL.cons (Xk.agg (X6 _)) TreeL.nil
  clear hx hf2 hf3 hW
  repeat(first|refine Zez ?_|refine Zbk ?_|refine Zv ?_|refine ZbN ?_)
  refine Zj ?_
  refine Zc ?_
  refine Zb ?_
  repeat(first|refine Zbk ?_|refine Xn rfl rfl (by decide) (Xc (cells:=cs.flatMap XA) rfl rfl rfl (by omega) (by exact ho3)) ?_|refine Zet ?_|refine ZbN ?_|(refine Zz ?_;intro G hG)|(refine ZI ?_;intro id G hG))
  refine Za ?_
  obtain ⟨b15,hb15⟩:∃ b15,b15=id:=⟨_,rfl⟩
  rw [← hb15] at hG ⊢
  clear hb15
  have hG:Has G ([(b15,⟨[I d3,Xf h3.props,I h3.ins,I h3.move,Xm h3.dels,Xl h3.lyrs,Xh f3],96,true⟩),(b13,⟨[Xf h2.props,I h2.ins,I h2.move,Xm h2.dels,Xl h2.lyrs,.sl oc 0 u 7],94,true⟩),(oc,⟨cc,96,true⟩),(orow,⟨cr,94,true⟩),(b9,⟨[I k,I c,I d,S t,Xf h.props,I h.ins,I h.move,Xm h.dels,Xl h.lyrs,.sl of 0 f.length 11,XD r],46,true⟩),(o,⟨cells,46,true⟩)]++(A++K)):=hG
  have hn:=hn G _ hG.swapL
  obtain ⟨A2,hW,hG1⟩:=hn2 G _ hG.swapL
  have hG1:Has (un G) ([(b15,⟨[I d3,Xf h3.props,I h3.ins,I h3.move,Xm h3.dels,Xl h3.lyrs,Xh f3],96,true⟩),(b13,⟨[Xf h2.props,I h2.ins,I h2.move,Xm h2.dels,Xl h2.lyrs,.sl oc 0 u 7],94,true⟩),(oc,⟨cc,96,true⟩),(orow,⟨cr,94,true⟩),(b9,⟨[I k,I c,I d,S t,Xf h.props,I h.ins,I h.move,Xm h.dels,Xl h.lyrs,.sl of 0 f.length 11,XD r],46,true⟩),(o,⟨cells,46,true⟩)]++(A2++K)):=hG1.swapL
  obtain ⟨H1,e1⟩:∃ X,X=un G:=⟨_,rfl⟩
  rw [← e1] at hn hG1
  obtain ⟨H2,e2⟩:∃ X,X=H1.set b15 (some ⟨[I d3,Xf h3.props,I h3.ins,I h3.move,Xm h3.dels,Xl h3.lyrs,Xh f3],96,true⟩):=⟨_,rfl⟩
  have hG2:=hG1.set (k:=0) rfl ⟨[I d3,Xf h3.props,I h3.ins,I h3.move,Xm h3.dels,Xl h3.lyrs,Xh f3],96,true⟩
  rw [← e2] at hG2
  obtain ⟨H3,e3⟩:∃ X,X=H2.set b15 (some ⟨[I d3,Xf h3.props,I h3.ins,I h3.move,Xm h3.dels,Xl h3.lyrs,Xh f3],96,true⟩):=⟨_,rfl⟩
  have hG3:=hG2.set (k:=0) rfl ⟨[I d3,Xf h3.props,I h3.ins,I h3.move,Xm h3.dels,Xl h3.lyrs,Xh f3],96,true⟩
  rw [← e3] at hG3
  clear hn2 e1
  refine Zc ?_
  refine XhT [4] [H1,H2,H3] H3 mixed (by decide +kernel) (N:=3) (by decide +kernel) rfl ?_
  repeat(first|refine Zb6 ?_|refine ZbC ?_|refine F_r2 0 rfl (by decide +kernel) (by decide +kernel) rfl rfl rfl rfl rfl (by decide) (Xj rfl rfl (hG.get 0 _ _ rfl) rfl) (Xj rfl rfl (hG1.get 0 _ _ rfl) rfl) ?_|refine F_c 0 rfl (by decide +kernel) rfl rfl rfl rfl (by decide) (AC.K rfl rfl rfl rfl hn) rfl ?_|refine F_k rfl rfl rfl rfl (by decide) (fun _=>Iso.K rfl rfl rfl rfl hhd th) ?_|refine Zek ?_|refine F_s 2 rfl (by decide +kernel) rfl rfl rfl rfl (XH rfl rfl rfl (hG2.get 0 _ _ rfl) rfl rfl rfl rfl rfl) e3 ?_|refine Zey ?_)
  have hG:Has H3 ([(b15,⟨[I d3,Xf h3.props,I h3.ins,I h3.move,Xm h3.dels,Xl h3.lyrs,Xh f3],96,true⟩),(b13,⟨[Xf h2.props,I h2.ins,I h2.move,Xm h2.dels,Xl h2.lyrs,.sl oc 0 u 7],94,true⟩),(oc,⟨cc,96,true⟩),(orow,⟨cr,94,true⟩),(b9,⟨[I k,I c,I d,S t,Xf h.props,I h.ins,I h.move,Xm h.dels,Xl h.lyrs,.sl of 0 f.length 11,XD r],46,true⟩),(o,⟨cells,46,true⟩)]++(A2++K)):=hG3
  clear hG1 hG2 hG3 e2 e3 hn hhd th
  have hm3:=hm3 _ _ _ hW (Has.swapL hG)
  clear hW
  repeat(first|refine Zez ?_)
  refine X5 rfl rfl rfl rfl rfl rfl (by decide) hm3 ?_
  rintro _ G ⟨⟨of3,rfl⟩,A,hW,hG⟩
  have hG:Has G ([(b15,⟨[I d3,Xf h3.props,I h3.ins,I h3.move,Xm h3.dels,Xl h3.lyrs,Xh f3],96,true⟩),(b13,⟨[Xf h2.props,I h2.ins,I h2.move,Xm h2.dels,Xl h2.lyrs,.sl oc 0 u 7],94,true⟩),(oc,⟨cc,96,true⟩),(orow,⟨cr,94,true⟩),(b9,⟨[I k,I c,I d,S t,Xf h.props,I h.ins,I h.move,Xm h.dels,Xl h.lyrs,.sl of 0 f.length 11,XD r],46,true⟩),(o,⟨cells,46,true⟩)]++(A++K)):=Has.swapL hG
  clear hm3
  have hG:Has G ((b15,⟨[I d3,Xf h3.props,I h3.ins,I h3.move,Xm h3.dels,Xl h3.lyrs,Xh f3],96,true⟩)::(b13,⟨[Xf h2.props,I h2.ins,I h2.move,Xm h2.dels,Xl h2.lyrs,.sl oc 0 u 7],94,true⟩)::(oc,⟨cc,96,true⟩)::(orow,⟨cr,94,true⟩)::(b9,⟨[I k,I c,I d,S t,Xf h.props,I h.ins,I h.move,Xm h.dels,Xl h.lyrs,.sl of 0 f.length 11,XD r],46,true⟩)::(o,⟨cells,46,true⟩)::(A++K)):=hG
  repeat(first|refine Zes ?_|refine ZJ ?_|(refine Zej ?_;intro o2 G hG)|refine ZS ?_|(refine Zz ?_;intro G hG)|(refine Xb7 2 hG rfl rfl rfl rfl rfl rfl rfl rfl rfl rfl rfl ?_;intro G hG)|(refine ZO ?_;intro id G hG))
  exact ⟨(u+1,o2,s5,A,cc++[I d3,Xf h3.props,I h3.ins,I h3.move,Xm h3.dels,Xl h3.lyrs,.sl of3 0 f3.length 11]),by dsimp only;omega,.cons rfl (.cons rfl (.cons rfl (.cons rfl (.cons rfl (.cons rfl (.cons rfl (.cons rfl (.cons rfl (.cons rfl (.nil _)))))))))),by dsimp only;omega,by dsimp only;rw [List.length_append,hcc];simp only [List.length_cons,List.length_nil];omega,hW,hf,hG.tail.tail⟩
end Go.Proofs.YtlcphjcpoinolaaGreat
