/- Part of the proof: the walk over the program and its laws: Ma Mb. -/
import Derived.Test.YtlcphjcpoinolaaGreatP0
import Derived.Test.YtlcphjcpoinolaaGreatP26
set_option linter.unusedVariables false
namespace Go.Proofs.YtlcphjcpoinolaaGreat
open Go.RowKit Go.Th
set_option maxRecDepth 20000
theorem Xu8:(Tryz.prog.info? 119).map (fun i=>(i.zero,i.size,i.bytes))=some (some .nilFunc,1,8):=by kernel_rfl
theorem Xu7:(Tryz.prog.info? 120).map (fun i=>(i.zero,i.size,i.bytes))=some (some .nilFunc,1,8):=by kernel_rfl
theorem Xu6:(Tryz.prog.info? 121).map (fun i=>(i.zero,i.size,i.bytes))=some (some .nilFunc,1,8):=by kernel_rfl
instance:HasU Tryz.prog 119 (.func #[43] #[43] false):=HasU.mk Tryz.underlying119
instance:HasU Tryz.prog 120 (.func #[46] #[4] false):=HasU.mk Tryz.underlying120
instance:HasU Tryz.prog 121 (.func #[3] #[3] false):=HasU.mk Tryz.underlying121
instance:HasI Tryz.prog 119 1 8 [.nilFunc]:=HasI.mk_of Xu8 rfl
instance:HasI Tryz.prog 120 1 8 [.nilFunc]:=HasI.mk_of Xu7 rfl
instance:HasI Tryz.prog 121 1 8 [.nilFunc]:=HasI.mk_of Xu6 rfl
section
variable {σ:Type} (kS:σ→Item→σ) (iS:σ→Int→σ)
mutual
def Xos (s:σ):Item→σ
  | .mk k c i t h f r=>Xfu (Xb6 (if k=6∨k=7 then iS (kS s (.mk k c i t h f r)) i else kS s (.mk k c i t h f r)) f) r
def Xb6 (s:σ):List Item→σ
  | []=>s
  | x::l=>Xb6 (Xos s x) l
def Xfu (s:σ):List Row→σ
  | []=>s
  | .mk _ c::l=>Xfu (XkD s c) l
def XkD (s:σ):List Cell→σ
  | []=>s
  | .mk i _ f::l=>XkD (Xb6 (iS s i) f) l
end
end
def Xly {σ α:Type} (s:σ) (_:α):σ:=s
theorem Xil (i:Int):Iso Tryz.prog 125 [I i] (fun p=>p=I i):=by
  have hG:=Xc
  refine Xb Tryz.func125 rfl rfl rfl ?_
  repeat(first|refine Zd1 ?_)
  exact ZE
section
variable {σ:Type} (W:σ→List (Nat × Blk)→Prop) (kS:σ→Item→σ) (g:FuncId) (cap:List PV)
def chP (g:FuncId) (cap:List PV):List PV:=[.fn (.func 81) [],.fn (.func g) cap,.fn (.func 125) []]
abbrev XA0 (l:List Item):Prop:=∀ (s:σ) (A:List (Nat × Blk)) (G:Xh) (K:List (Nat × Blk)),W s A→Has G (A++K) →
  AC Tryz.prog 55 [.agg (chP g cap),Xk l] G (fun p G'=>(∃ o,p=.sl o 0 l.length 11)∧∃ A',W (Xb6 kS Xly s l) A'∧Has G' (A'++K))
end
set_option maxHeartbeats 64000000 in
theorem XpK {σ:Type} (W:σ→List (Nat × Blk)→Prop) (kS:σ→Item→σ) (g:FuncId) (cap:List PV)
    (hK:∀ (s:σ) (A:List (Nat × Blk)) (G:Xh) (K:List (Nat × Blk)) (x:Item),W s A→Has G (A++K)→AC Tryz.prog g ([.agg (Xl x)]++cap) G (fun p G'=>p=B true∧∃ A',W (kS s x) A'∧Has G' (A'++K)))
    (l:List Item) (hc:Xz l≤300) (hI:∀ x ∈ l,∀ k c i t h f r,x=.mk k c i t h f r→XA0 W kS g cap f∧∀ y ∈ r,∀ h cs,y=.mk h cs→∀ z ∈ cs,∀ i hh f,z=.mk i hh f→XA0 W kS g cap f):XA0 W kS g cap l:=by
  intro s A G K hW hG
  have hll:=XaH l
  obtain ⟨q,hq⟩:∃ q,Xb6 kS Xly s l=q:=⟨_,rfl⟩
  rw [hq]
  refine Xw Tryz.func55 rfl rfl rfl ?_
  refine Zc ?_
  refine Zb ?_
  repeat(first|refine Zd ?_|(refine ZI ?_;intro id G hG))
  refine Za ?_
  refine XD (C:=⟨chP g cap,123,true⟩) 2 hG rfl ?_
  clear hG
  intro G hG
  repeat(first|refine Zd1 ?_)
  refine XQ 5 46 11 hG rfl ?_
  clear hG
  intro o G hG
  refine Xg (S:=Nat × Nat × σ × List (Nat × Blk) × List PV) (fun x=>[(2,.ept (chP g cap) 0),(5,.sl x.2.1 0 x.1 11),(14,Xk l),(15,I l.length),(16,I x.1)])
    (fun x G=>x.1≤l.length∧x.2.2.2.2.length=x.1 * 11∧W x.2.2.1 x.2.2.2.1∧Xb6 kS Xly x.2.2.1 (l.drop x.1)=q∧Has G ((x.2.1,⟨x.2.2.2.2,46,true⟩)::(x.2.2.2.1++K))) (fun x=>l.length - x.1) (0,o,s,A,[])
    (.cons rfl (.cons rfl (.cons rfl (.cons rfl (.cons rfl (.nil _)))))) ⟨Nat.zero_le _,rfl,hW,hq,hG⟩ ?_
  clear hG hW hq
  rintro ⟨i,o,s,A,cells⟩ G ⟨hi,hcl,hW,hf,hG⟩
  dsimp only at hi hcl hW hf hG ⊢
  by_cases hil:i < l.length
  rotate_left
  · have ei:i=l.length:=by omega
    subst ei
    rw [List.drop_length,Xb6] at hf
    subst hf
    repeat(first|refine Zd1 ?_)
    exact XG rfl rfl ⟨⟨_,rfl⟩,A,hW,hG.tail⟩
  obtain ⟨x,hx⟩:∃ x,l[i]?=some x:=⟨_,List.getElem?_eq_getElem hil⟩
  have ho:=Xu XU l i x hx
  have hxm:=List.mem_of_getElem? hx
  have hIx:=hI x hxm
  have hxc:=XcC hxm
  rw [Xak hx,Xb6] at hf
  clear hI
  obtain ⟨k,c,d,t,h,f,r⟩:=x
  obtain ⟨hf1,hf2⟩:=hIx _ _ _ _ _ _ _ rfl
  have hk:=fun A G K=>hK s A G K (.mk k c d t h f r)
  rw [Xos] at hf
  generalize kS s (.mk k c d t h f r)=s1 at hf hk
  rw [show (if k=6∨k=7 then Xly s1 d else s1)=s1 by split <;> rfl] at hf
  rw [XbH] at hxc
  rw [XK] at ho hk
  have hhd:=Xam h (HBd.of (by omega))
  have hid:=Xil d
  have hrl:=Xcf r
  have th:∀ c ∈ [PV.agg (XN h)],Xi c:=TreeL.cons (Xi.agg (Xah _)) TreeL.nil
  have td:∀ c ∈ [I d],Xi c:=TreeL.cons (Xe _) TreeL.nil
  clear hIx hx hxm
  repeat(first|refine Zd7 ?_)
  refine Zh ?_
  repeat(first|refine Zd7 ?_|refine ZbU ?_|(refine ZA ?_;intro G hG)|(refine ZD ?_;intro id G hG))
  obtain ⟨b7,hb7⟩:∃ b7,b7=id:=⟨_,rfl⟩
  rw [← hb7] at hG ⊢
  clear hb7
  have hG:Has G ((b7,⟨[I k,I c,I d,S t,Xn h.props,I h.ins,I h.move,Xy h.dels,Xx h.lyrs,Xk f,X7 r],46,true⟩)::(o,⟨cells,46,true⟩)::(A++K)):=hG
  refine X0 rfl rfl rfl rfl rfl rfl (by decide) (hk A _ _ hW (Has.swapL (A:=[(b7,⟨[I k,I c,I d,S t,Xn h.props,I h.ins,I h.move,Xy h.dels,Xx h.lyrs,Xk f,X7 r],46,true⟩),(o,⟨cells,46,true⟩)]) hG)) ?_
  clear hk hG
  rintro _ G ⟨rfl,A,hW,hG⟩
  have hG:Has G ((b7,⟨[I k,I c,I d,S t,Xn h.props,I h.ins,I h.move,Xy h.dels,Xx h.lyrs,Xk f,X7 r],46,true⟩)::(o,⟨cells,46,true⟩)::(A++K)):=Has.swapL (B:=[(b7,⟨[I k,I c,I d,S t,Xn h.props,I h.ins,I h.move,Xy h.dels,Xx h.lyrs,Xk f,X7 r],46,true⟩),(o,⟨cells,46,true⟩)]) hG
  repeat(first|refine Zr ?_)
  refine Za ?_
  refine Zay ?_
  refine Zm ?_
  refine Zc ?_
  refine Zb ?_
  repeat(first|(refine Zcy ?_;rintro _ rfl)|refine Zd5 ?_|(refine ZA ?_;intro G hG))
  refine Za ?_
  have hG:Has G ((b7,⟨[I k,I c,I d,S t,Xn h.props,I h.ins,I h.move,Xy h.dels,Xx h.lyrs,Xk f,X7 r],46,true⟩)::(o,⟨cells,46,true⟩)::(A++K)):=hG
  clear hhd th
  refine Zc ?_
  refine Xcw (S:=Unit) (fun _=>[(2,.ept (chP g cap) 0),(5,.sl o 0 i 11),(7,.ptr b7 0),(14,Xk l),(15,I l.length),(16,I i)]) (fun _ G=>Has G ((b7,⟨[I k,I c,I d,S t,Xn h.props,I h.ins,I h.move,Xy h.dels,Xx h.lyrs,Xk f,X7 r],46,true⟩)::(o,⟨cells,46,true⟩)::(A++K))) ?_ ?_
  · by_cases k6:k=6
    · repeat(first|refine Zd1 ?_|(refine Xr rfl rfl rfl rfl rfl rfl (by decide) hid td ?_;rintro _ rfl)|(refine ZA ?_;intro G hG))
      exact ZaB
    · by_cases k7:k=7
      · repeat(first|refine Zd1 ?_|(refine Xr rfl rfl rfl rfl rfl rfl (by decide) hid td ?_;rintro _ rfl)|(refine ZA ?_;intro G hG))
        exact ZaB
      · repeat(first|refine Zd1 ?_|refine ZN ?_)
        exact ZaB
  clear hG hid td
  rintro _ G hG
  have hm:=hf1 s1 A G ((b7,⟨[I k,I c,I d,S t,Xn h.props,I h.ins,I h.move,Xy h.dels,Xx h.lyrs,Xk f,X7 r],46,true⟩)::(o,⟨cells,46,true⟩)::K) hW (Has.swapL (A:=[(b7,⟨[I k,I c,I d,S t,Xn h.props,I h.ins,I h.move,Xy h.dels,Xx h.lyrs,Xk f,X7 r],46,true⟩),(o,⟨cells,46,true⟩)]) hG)
  clear hf1 hW
  generalize Xb6 kS Xly s1 f=s2 at hf hm
  repeat(first|refine Zd7 ?_)
  refine X0 rfl rfl rfl rfl rfl rfl (by decide) hm ?_
  rintro _ G ⟨⟨of,rfl⟩,A,hW,hG⟩
  have hG:Has G ((b7,⟨[I k,I c,I d,S t,Xn h.props,I h.ins,I h.move,Xy h.dels,Xx h.lyrs,Xk f,X7 r],46,true⟩)::(o,⟨cells,46,true⟩)::(A++K)):=Has.swapL (B:=[(b7,⟨[I k,I c,I d,S t,Xn h.props,I h.ins,I h.move,Xy h.dels,Xx h.lyrs,Xk f,X7 r],46,true⟩),(o,⟨cells,46,true⟩)]) hG
  clear hm
  repeat(first|refine Zd7 ?_|refine Zv ?_|(refine ZA ?_;intro G hG))
  refine XfL 0 10 94 6 hG rfl rfl ?_
  clear hG
  intro orow G hG
  have hG:Has G ((b7,⟨[I k,I c,I d,S t,Xn h.props,I h.ins,I h.move,Xy h.dels,Xx h.lyrs,.sl of 0 f.length 11,.sl orow 0 0 6],46,true⟩)::(orow,⟨[],94,true⟩)::(o,⟨cells,46,true⟩)::(A++K)):=hG.perm (List.Perm.swap _ _ _)
  refine Zh ?_
  refine Xg (S:=Nat × Nat × σ × List (Nat × Blk) × List PV) (fun x=>[(2,.ept (chP g cap) 0),(5,.sl o 0 i 11),(7,.ptr b7 0),(14,Xk l),(15,I l.length),(16,I i),(53,X7 r),(54,I r.length),(55,I x.1)])
    (fun x G=>x.1≤r.length∧x.2.2.2.2.length=x.1 * 6∧W x.2.2.1 x.2.2.2.1∧Xb6 kS Xly (Xfu kS Xly x.2.2.1 (r.drop x.1)) (l.drop (i+1))=q∧Has G ((b7,⟨[I k,I c,I d,S t,Xn h.props,I h.ins,I h.move,Xy h.dels,Xx h.lyrs,.sl of 0 f.length 11,.sl x.2.1 0 x.1 6],46,true⟩)::(x.2.1,⟨x.2.2.2.2,94,true⟩)::(o,⟨cells,46,true⟩)::(x.2.2.2.1++K))) (fun x=>r.length - x.1) (0,orow,s2,A,[])
    (.cons rfl (.cons rfl (.cons rfl (.cons rfl (.cons rfl (.cons rfl (.cons rfl (.cons rfl (.cons rfl (.nil _)))))))))) ⟨Nat.zero_le _,rfl,hW,hf,hG⟩ ?_
  clear hG hW hf
  rintro ⟨j,orow,s,A,cr⟩ G ⟨hj,hcr,hW,hf,hG⟩
  dsimp only at hj hcr hW hf hG ⊢
  by_cases hjl:j < r.length
  rotate_left
  · rw [List.drop_eq_nil_of_le (by omega),Xfu] at hf
    clear hf2
    repeat(first|refine Zd1 ?_|refine ZJ ?_|(refine Xag 3 hG rfl rfl (by decide) rfl rfl rfl rfl rfl rfl hcl rfl (hG.cellsOf (k:=0) rfl rfl) rfl (by omega) (by omega) ?_;intro o2 G hG)|(refine ZL ?_;intro id G hG))
    exact ⟨(i+1,o2,s,A,cells++[I k,I c,I d,S t,Xn h.props,I h.ins,I h.move,Xy h.dels,Xx h.lyrs,.sl of 0 f.length 11,.sl orow 0 j 6]),by dsimp only;omega,.cons rfl (.cons rfl (.cons rfl (.cons rfl (.cons rfl (.nil _))))),by dsimp only;omega,by dsimp only;rw [List.length_append,hcl];simp only [List.length_cons,List.length_nil];omega,hW,hf,hG.tail.tail.tail⟩
  obtain ⟨x,hx⟩:∃ x,r[j]?=some x:=⟨_,List.getElem?_eq_getElem hjl⟩
  have ho:=Xu XaX r j x hx
  have hxm:=List.mem_of_getElem? hx
  have hyc:=XcB hxm
  have hf3:=hf2 x hxm
  rw [Xak hx] at hf
  obtain ⟨h2,cs⟩:=x
  rw [XfA] at hyc
  have hcsl:=Xcg cs
  rw [Xfu] at hf
  rw [X2] at ho
  have hhd:=Xam h2 (HBd.of (by omega))
  have th:∀ c ∈ [PV.agg (XN h2)],Xi c:=TreeL.cons (Xi.agg (Xah _)) TreeL.nil
  clear hx
  repeat(first|refine Zd7 ?_)
  refine Zh ?_
  refine Zc ?_
  refine Zb ?_
  repeat(first|refine Zcz ?_|refine Zu ?_|(refine ZA ?_;intro G hG)|(refine ZD ?_;intro id G hG))
  refine Za ?_
  refine XD (C:=⟨[Xn h2.props,I h2.ins,I h2.move,Xy h2.dels,Xx h2.lyrs,Xau cs],94,true⟩) 10 hG rfl ?_
  clear hG
  intro G hG
  refine Zc ?_
  refine Zb ?_
  repeat(first|(refine Zcy ?_;rintro _ rfl)|refine Zd5 ?_|refine Z5 ?_|(refine ZA ?_;intro G hG)|(refine ZD ?_;intro id G hG))
  refine Za ?_
  obtain ⟨b11,hb11⟩:∃ b11,b11=id:=⟨_,rfl⟩
  rw [← hb11] at hG ⊢
  clear hb11 hhd th
  refine XfL 0 5 96 7 hG rfl rfl ?_
  clear hG
  intro oc G hG
  have hG:Has G ((b11,⟨[Xn h2.props,I h2.ins,I h2.move,Xy h2.dels,Xx h2.lyrs,.sl oc 0 0 7],94,true⟩)::(oc,⟨[],96,true⟩)::(b7,⟨[I k,I c,I d,S t,Xn h.props,I h.ins,I h.move,Xy h.dels,Xx h.lyrs,.sl of 0 f.length 11,.sl orow 0 j 6],46,true⟩)::(orow,⟨cr,94,true⟩)::(o,⟨cells,46,true⟩)::(A++K)):=hG.perm (List.Perm.swap _ _ _)
  repeat(first|refine Zd1 ?_)
  refine Xg (S:=Nat × Nat × σ × List (Nat × Blk) × List PV) (fun x=>[(2,.ept (chP g cap) 0),(5,.sl o 0 i 11),(7,.ptr b7 0),(14,Xk l),(15,I l.length),(16,I i),(53,X7 r),(54,I r.length),(55,I j),(11,.ptr b11 0),(66,Xau cs),(67,I cs.length),(68,I x.1)])
    (fun x G=>x.1≤cs.length∧x.2.2.2.2.length=x.1 * 7∧W x.2.2.1 x.2.2.2.1∧Xb6 kS Xly (Xfu kS Xly (XkD kS Xly x.2.2.1 (cs.drop x.1)) (r.drop (j+1))) (l.drop (i+1))=q∧Has G ((b11,⟨[Xn h2.props,I h2.ins,I h2.move,Xy h2.dels,Xx h2.lyrs,.sl x.2.1 0 x.1 7],94,true⟩)::(x.2.1,⟨x.2.2.2.2,96,true⟩)::(b7,⟨[I k,I c,I d,S t,Xn h.props,I h.ins,I h.move,Xy h.dels,Xx h.lyrs,.sl of 0 f.length 11,.sl orow 0 j 6],46,true⟩)::(orow,⟨cr,94,true⟩)::(o,⟨cells,46,true⟩)::(x.2.2.2.1++K))) (fun x=>cs.length - x.1) (0,oc,s,A,[])
    (.cons rfl (.cons rfl (.cons rfl (.cons rfl (.cons rfl (.cons rfl (.cons rfl (.cons rfl (.cons rfl (.cons rfl (.cons rfl (.cons rfl (.cons rfl (.nil _)))))))))))))) ⟨Nat.zero_le _,rfl,hW,hf,hG⟩ ?_
  clear hG hW hf ho
  rintro ⟨u,oc,s,A,cc⟩ G ⟨hu,hcc,hW,hf,hG⟩
  dsimp only at hu hcc hW hf hG ⊢
  by_cases hul:u < cs.length
  rotate_left
  · rw [List.drop_eq_nil_of_le (by omega),XkD] at hf
    clear hf2 hf3
    repeat(first|refine Zd1 ?_|refine ZJ ?_|(refine Xag 4 hG rfl rfl (by decide) rfl rfl rfl rfl rfl rfl hcr rfl (hG.cellsOf (k:=0) rfl rfl) rfl (by omega) (by omega) ?_;intro o2 G hG)|refine Zbh ?_|(refine XbI 3 hG rfl rfl rfl rfl rfl rfl rfl rfl rfl rfl rfl ?_;intro G hG)|(refine ZL ?_;intro id G hG))
    exact ⟨(j+1,o2,s,A,cr++[Xn h2.props,I h2.ins,I h2.move,Xy h2.dels,Xx h2.lyrs,.sl oc 0 u 7]),by dsimp only;omega,.cons rfl (.cons rfl (.cons rfl (.cons rfl (.cons rfl (.cons rfl (.cons rfl (.cons rfl (.cons rfl (.nil _))))))))),by dsimp only;omega,by dsimp only;rw [List.length_append,hcr];simp only [List.length_cons,List.length_nil];omega,hW,hf,hG.tail.tail.tail⟩
  obtain ⟨x,hx⟩:∃ x,cs[u]?=some x:=⟨_,List.getElem?_eq_getElem hul⟩
  have ho:=Xu XaP cs u x hx
  have hxm3:=List.mem_of_getElem? hx
  have hzc:=XcE hxm3
  have hm3:=hf3 _ _ rfl x hxm3
  rw [Xak hx] at hf
  obtain ⟨d3,h3,f3⟩:=x
  have hm3:=hm3 _ _ _ rfl s A
  rw [XfB] at hzc
  rw [XkD] at hf
  rw [show Xly s d3=s from rfl] at hf
  rw [XZ] at ho
  generalize Xb6 kS Xly s f3=s4 at hf hm3
  have hhd:=Xam h3 (HBd.of (by omega))
  have th:∀ c ∈ [PV.agg (XN h3)],Xi c:=TreeL.cons (Xi.agg (Xah _)) TreeL.nil
  have hid:=Xil d3
  have td:∀ c ∈ [I d3],Xi c:=TreeL.cons (Xe _) TreeL.nil
  clear hx hf2 hf3
  repeat(first|refine Zd7 ?_)
  refine Zh ?_
  refine Zc ?_
  refine Zb ?_
  repeat(first|refine ZcA ?_|refine Zu ?_|(refine ZA ?_;intro G hG)|(refine ZD ?_;intro id G hG))
  refine Za ?_
  obtain ⟨b13,hb13⟩:∃ b13,b13=id:=⟨_,rfl⟩
  rw [← hb13] at hG ⊢
  clear hb13
  have hG:Has G ([(b13,⟨[I d3,Xn h3.props,I h3.ins,I h3.move,Xy h3.dels,Xx h3.lyrs,Xk f3],96,true⟩),(b11,⟨[Xn h2.props,I h2.ins,I h2.move,Xy h2.dels,Xx h2.lyrs,.sl oc 0 u 7],94,true⟩),(oc,⟨cc,96,true⟩),(b7,⟨[I k,I c,I d,S t,Xn h.props,I h.ins,I h.move,Xy h.dels,Xx h.lyrs,.sl of 0 f.length 11,.sl orow 0 j 6],46,true⟩),(orow,⟨cr,94,true⟩),(o,⟨cells,46,true⟩)]++(A++K)):=hG
  obtain ⟨H1,e1⟩:∃ X,X=G.set b13 (some ⟨[I d3,Xn h3.props,I h3.ins,I h3.move,Xy h3.dels,Xx h3.lyrs,Xk f3],96,true⟩):=⟨_,rfl⟩
  have hG1:=hG.set (k:=0) rfl ⟨[I d3,Xn h3.props,I h3.ins,I h3.move,Xy h3.dels,Xx h3.lyrs,Xk f3],96,true⟩
  rw [← e1] at hG1
  refine Zc ?_
  refine Z7 ?_
  repeat(first|refine Zak ?_|refine Zdo ?_|refine Y_k rfl rfl rfl (by decide) (fun _=>Iso.K rfl rfl rfl rfl hid td) ?_|refine Y_k rfl rfl rfl (by decide) (fun _=>Iso.K rfl rfl rfl rfl hhd th) ?_|refine Za6 ?_|refine Zd6 ?_)
  have hG:Has H1 ([(b13,⟨[I d3,Xn h3.props,I h3.ins,I h3.move,Xy h3.dels,Xx h3.lyrs,Xk f3],96,true⟩),(b11,⟨[Xn h2.props,I h2.ins,I h2.move,Xy h2.dels,Xx h2.lyrs,.sl oc 0 u 7],94,true⟩),(oc,⟨cc,96,true⟩),(b7,⟨[I k,I c,I d,S t,Xn h.props,I h.ins,I h.move,Xy h.dels,Xx h.lyrs,.sl of 0 f.length 11,.sl orow 0 j 6],46,true⟩),(orow,⟨cr,94,true⟩),(o,⟨cells,46,true⟩)]++(A++K)):=hG1
  clear hG1 e1 hid hhd td th
  have hm3:=hm3 _ _ hW (Has.swapL hG)
  clear hW
  repeat(first|refine Zd7 ?_)
  refine X0 rfl rfl rfl rfl rfl rfl (by decide) hm3 ?_
  rintro _ G ⟨⟨of3,rfl⟩,A,hW,hG⟩
  have hG:Has G ([(b13,⟨[I d3,Xn h3.props,I h3.ins,I h3.move,Xy h3.dels,Xx h3.lyrs,Xk f3],96,true⟩),(b11,⟨[Xn h2.props,I h2.ins,I h2.move,Xy h2.dels,Xx h2.lyrs,.sl oc 0 u 7],94,true⟩),(oc,⟨cc,96,true⟩),(b7,⟨[I k,I c,I d,S t,Xn h.props,I h.ins,I h.move,Xy h.dels,Xx h.lyrs,.sl of 0 f.length 11,.sl orow 0 j 6],46,true⟩),(orow,⟨cr,94,true⟩),(o,⟨cells,46,true⟩)]++(A++K)):=Has.swapL hG
  clear hm3
  have hG:Has G ((b13,⟨[I d3,Xn h3.props,I h3.ins,I h3.move,Xy h3.dels,Xx h3.lyrs,Xk f3],96,true⟩)::(b11,⟨[Xn h2.props,I h2.ins,I h2.move,Xy h2.dels,Xx h2.lyrs,.sl oc 0 u 7],94,true⟩)::(oc,⟨cc,96,true⟩)::(b7,⟨[I k,I c,I d,S t,Xn h.props,I h.ins,I h.move,Xy h.dels,Xx h.lyrs,.sl of 0 f.length 11,.sl orow 0 j 6],46,true⟩)::(orow,⟨cr,94,true⟩)::(o,⟨cells,46,true⟩)::(A++K)):=hG
  repeat(first|refine Zd1 ?_|refine ZJ ?_|(refine Xag 3 hG rfl rfl (by decide) rfl rfl rfl rfl rfl rfl hcc rfl (hG.cellsOf (k:=0) rfl rfl) rfl (by omega) (by omega) ?_;intro o2 G hG)|refine Z3 ?_|(refine ZA ?_;intro G hG)|(refine XbI 2 hG rfl rfl rfl rfl rfl rfl rfl rfl rfl rfl rfl ?_;intro G hG)|(refine ZL ?_;intro id G hG))
  exact ⟨(u+1,o2,s4,A,cc++[I d3,Xn h3.props,I h3.ins,I h3.move,Xy h3.dels,Xx h3.lyrs,.sl of3 0 f3.length 11]),by dsimp only;omega,.cons rfl (.cons rfl (.cons rfl (.cons rfl (.cons rfl (.cons rfl (.cons rfl (.cons rfl (.cons rfl (.cons rfl (.cons rfl (.cons rfl (.cons rfl (.nil _))))))))))))),by dsimp only;omega,by dsimp only;rw [List.length_append,hcc];simp only [List.length_cons,List.length_nil];omega,hW,hf,hG.tail.tail⟩
end Go.Proofs.YtlcphjcpoinolaaGreat
namespace Go.Proofs.YtlcphjcpoinolaaGreat
open Go.RowKit Go.Th
set_option maxRecDepth 20000
section
variable {σ:Type} (W:Nat→σ→List (Nat × Blk)→Prop) (kS:σ→Item→σ) (iS:σ→Int→σ) (gi gn:FuncId) (ci cn:List PV)
end
end Go.Proofs.YtlcphjcpoinolaaGreat
