/- Part of the proof: the walk over the program and its laws: Cs Fd. -/
import Derived.Test.YtlcphjcpoinolaaGreatP0
import Derived.Test.YtlcphjcpoinolaaGreatP22
set_option linter.unusedVariables false
namespace Go.Proofs.YtlcphjcpoinolaaGreat
open Go.RowKit Go.Th
set_option maxRecDepth 20000
theorem Xhl {α:Type} {enc:α→List PV} {sz:Nat} (h:∀ x,(enc x).length=sz):∀ (l:List α) (i:Nat) (x:α) (j:Nat) (c:PV),l[i]?=some x→(enc x)[j]?=some c→(l.flatMap enc)[i * sz+j]?=some c
  | [],i,x,j,c,hx,hc=>by simp at hx
  | y::l,0,x,j,c,hx,hc=>by
    simp at hx;subst hx
    have hj:=(List.getElem?_eq_some_iff.1 hc).1
    rw [List.flatMap_cons,Nat.zero_mul,Nat.zero_add,List.getElem?_append_left hj];exact hc
  | y::l,i+1,x,j,c,hx,hc=>by
    have ih:=Xhl h l i x j c (by simpa using hx) hc
    have e:(i+1) * sz+j - (enc y).length=i * sz+j:=by rw [h y,Nat.add_mul,Nat.one_mul];omega
    rw [List.flatMap_cons,List.getElem?_append_right (by rw [h y,Nat.add_mul,Nat.one_mul];omega),e];exact ih
theorem Xnc {cells:List PV} {off:Nat} {c:PV} (h:cells[off]?=some c):Xai 1 (cells.drop off)=some [c]:=by
  obtain ⟨hl,rfl⟩:=List.getElem?_eq_some_iff.1 h
  rw [List.drop_eq_getElem_cons hl];rfl
theorem XyN {d:TypeDesc} {size off:Nat} {cells:List PV} {c:PV} (hd:Xdl d=false) (h:cells[off]?=some c):XfV d size cells off=some c:=by
  simp only [XfV,hd,Xnc h]
theorem Xm7 {cells:List PV} {off:Nat} {c:PV} (h:cells[off]?=some c):X6 cells off [c]=cells:=by
  obtain ⟨hl,rfl⟩:=List.getElem?_eq_some_iff.1 h
  simp only [X6,List.set_getElem_self]
theorem Xk1 (l:List Comment) (hl:l.length≤1000000):Iso Tryz.prog 162 [X9 l] (fun p=>p=X9 l) :=
  XaY (Xsz l hl) fun p H h=>XeU.conv (fun x _=>Xa (Xe _) (Xa (Xe _) (Xa (XX _) (Xa (Xe _) (Xa (XX _) (Xa (XcJ _) Xp)))))) (XC Xtj l) h
theorem Xk0 (l:List Var) (hl:l.length≤1000000):Iso Tryz.prog 163 [Xds l] (fun p=>p=Xds l) :=
  XaY (Xsy l hl) fun p H h=>XeU.conv (fun x _=>Xa (XX _) (Xa (XX _) Xp)) (XC Xti l) h
theorem XkZ (l:List Level) (hl:l.length≤1000000):Iso Tryz.prog 164 [Xha l] (fun p=>p=Xha l) :=
  XaY (Xsx l hl) fun p H h=>XeU.conv (fun x _=>Xa (Xe _) (Xa (Xe _) (Xa (XX _) (Xa (Xe _) Xp)))) (XC Xth l) h
theorem XhD (l:List Rev) (hl:l.length≤1000000):Iso Tryz.prog 66 [XdA l] (fun p=>p=XdA l) :=
  XaY (XwQ l hl) fun p H h=>XeU.conv (fun x _=>Xa (Xe _) (Xa (XX _) (Xa (Xe _) Xp))) (XC XyR l) h
theorem XnR (x:Style):∀ c ∈ Xt x,Xi c:=Xa (Xe _) (Xa (Xe _) (Xa (XX _) (Xa (Xe _) (Xa (Xe _) (Xa (XT _) Xp)))))
theorem XnS (x:Lst):∀ c ∈ XaE x,Xi c:=Xa (Xe _) (Xa (XbK _) Xp)
theorem Xh6 {α:Type} {enc:α→List PV} (h:∀ x,∀ c ∈ enc x,Xi c) (l:List α):∀ c ∈ l.flatMap enc,Xi c:=fun c hc=>by
  obtain ⟨x,_,hx⟩:=List.mem_flatMap.1 hc
  exact h x c hx
set_option maxHeartbeats 16000000 in
theorem XjA (s:Sets) (hs:SmS s):Iso Tryz.prog 102 [.agg (XaW s)] (fun p=>p=.agg (XaW s)):=by
  obtain ⟨b1,b2,b3,b4,b5,b6⟩:=hs
  have c100:=XsB s.styles (by omega)
  have c101:=XsA s.lists (by omega)
  have c102:=Xk1 s.comments (by omega)
  have c103:=Xk0 s.vars (by omega)
  have n100:=XC XpQ s.styles
  have n101:=XC XpP s.lists
  have ts:=Xh6 XnR s.styles
  have tl:=Xh6 XnS s.lists
  have hG:=Xc
  refine Xb Tryz.func102 rfl rfl rfl ?_
  repeat(first|refine Zd3 ?_|(refine ZD ?_;intro id G hG)|(refine ZI ?_;intro id G hG))
  rename_i ib _ _
  have hG:Has G [(id,⟨_,51,true⟩),(ib,⟨XaW s,51,true⟩)]:=hG
  refine Xrd 13 [2,5] Xrr hG mixed (by decide +kernel) (N:=3) (by decide +kernel) fun g1 G hG=>?_
  obtain ⟨H1,e1⟩:∃ X,X=G++[some (Blk.mk (s.styles.flatMap Xt) 100 true)]:=⟨_,rfl⟩
  have hG1:=hG.new (Blk.mk (s.styles.flatMap Xt) 100 true)
  rw [← e1] at hG1
  obtain ⟨H2,e2⟩:∃ X,X=H1++[some (Blk.mk (s.lists.flatMap XaE) 103 true)]:=⟨_,rfl⟩
  have hG2:=hG1.new (Blk.mk (s.lists.flatMap XaE) 103 true)
  rw [← e2] at hG2
  obtain ⟨H3,e3⟩:∃ X,X=H2.set g1 (some (Blk.mk [.sl G.length 0 s.styles.length 6,.sl H1.length 0 s.lists.length 2,X9 s.comments,Xds s.vars] 51 true)):=⟨_,rfl⟩
  have hG3:=hG2.set (k:=2) rfl (Blk.mk [.sl G.length 0 s.styles.length 6,.sl H1.length 0 s.lists.length 2,X9 s.comments,Xds s.vars] 51 true)
  rw [← e3] at hG3
  have hb:∀ k,k≤2→(hsL [G,H1,H2,H3] k)[ib]?=some (some ⟨XaW s,51,true⟩):=fun k hk=>by
    match k,hk with
    | 0,_=>exact hG.get 2 _ _ rfl
    | 1,_=>exact hG1.get 3 _ _ rfl
    | 2,_=>exact hG2.get 4 _ _ rfl
  have hg:∀ k,k≤2→(hsL [G,H1,H2,H3] k)[g1]?=some (some Xrr):=fun k hk=>by
    match k,hk with
    | 0,_=>exact hG.get 0 _ _ rfl
    | 1,_=>exact hG1.get 1 _ _ rfl
    | 2,_=>exact hG2.get 2 _ _ rfl
  refine ⟨[H1,H2,H3],H3,rfl,?_⟩
  repeat(first|refine F_r 0 0 rfl (by decide +kernel) (by decide +kernel) rfl rfl rfl (by decide) (fun k ha hz=>Xm rfl rfl (hb k (by omega)) rfl) ?_|refine F_r 0 1 rfl (by decide +kernel) (by decide +kernel) rfl rfl rfl (by decide) (fun k ha hz=>Xm rfl rfl (hb k (by omega)) rfl) ?_|refine F_r 0 2 rfl (by decide +kernel) (by decide +kernel) rfl rfl rfl (by decide) (fun k ha hz=>Xm rfl rfl (hb k (by omega)) rfl) ?_|refine F_c 0 rfl (by decide +kernel) rfl rfl rfl rfl (by decide) (AC.K rfl rfl rfl rfl (Xte c100 (TreeL.cons (XI _) TreeL.nil) ts G)) e1 ?_|refine F_c 1 rfl (by decide +kernel) rfl rfl rfl rfl (by decide) (AC.K rfl rfl rfl rfl (Xte c101 (TreeL.cons (XaL _) TreeL.nil) tl H1)) e2 ?_|refine F_k rfl rfl rfl rfl (by decide) (fun _=>Iso.K rfl rfl rfl rfl c102 (TreeL.cons (XaM _) TreeL.nil)) ?_|refine F_k rfl rfl rfl rfl (by decide) (fun _=>Iso.K rfl rfl rfl rfl c103 (TreeL.cons (Xb8 _) TreeL.nil)) ?_|refine F_f 0 2 rfl rfl (by decide +kernel) (by decide +kernel) rfl rfl (by decide) (XhP rfl rfl) (fun k ha hz=>hg k (by omega)) ?_|refine F_s 2 rfl (by decide +kernel) rfl rfl rfl rfl (Xap rfl rfl rfl (hG2.get 2 _ _ rfl) rfl rfl rfl rfl rfl) e3 ?_|refine Zd8 ?_|refine F_v rfl rfl rfl rfl (by decide) (fun _=>XcX rfl rfl rfl rfl) ?_)
  have hG:Has H3 [(H1.length,⟨s.lists.flatMap XaE,103,true⟩),(G.length,⟨s.styles.flatMap Xt,100,true⟩),(g1,⟨[.sl G.length 0 s.styles.length 6,.sl H1.length 0 s.lists.length 2,X9 s.comments,Xds s.vars],51,true⟩),(id,⟨[Xaw,Xaw,Xaw,Xaw],51,true⟩),(ib,⟨XaW s,51,true⟩)]:=hG3
  clear hG1 hG2 hG3 e1 e2 e3 hb hg ts tl c100 c101 c102 c103
  generalize H1.length=ol at hG ⊢
  generalize G.length=os at hG ⊢
  generalize id=ir at hG ⊢
  repeat(first|refine Zd1 ?_|refine Zbh ?_)
  refine Xg (S:=Nat) (fun i=>[(2,.ptr ir 0),(3,.ptr g1 0),(21,I s.styles.length),(22,I i)]) (fun i G=>i≤s.styles.length∧Has G [(ol,⟨s.lists.flatMap XaE,103,true⟩),(os,⟨s.styles.flatMap Xt,100,true⟩),(g1,⟨[.sl os 0 s.styles.length 6,.sl ol 0 s.lists.length 2,X9 s.comments,Xds s.vars],51,true⟩),(ir,⟨[Xaw,Xaw,Xaw,Xaw],51,true⟩),(ib,⟨XaW s,51,true⟩)]) (fun i=>s.styles.length - i) 0
    (.cons rfl (.cons rfl (.cons rfl (.cons rfl (.nil _))))) ⟨Nat.zero_le _,hG⟩ ?_
  clear hG
  rintro i G ⟨hi,hG⟩
  try dsimp only at hi hG ⊢
  by_cases hil:i < s.styles.length
  · obtain ⟨x,hx⟩:∃ x,s.styles[i]?=some x:=⟨_,List.getElem?_eq_getElem hil⟩
    have cx:=XhC x.props (by have:=b5 i x hx;omega)
    have hcell:=Xhl XpQ s.styles i x 5 (Xn x.props) hx rfl
    have e0:i * 6+5=0+i * 6+5:=by omega
    rw [e0] at hcell
    have hle:Nat.ble (0+i * 6+5+1) (s.styles.flatMap Xt).length=true:=by rw [Nat.ble_eq,n100];omega
    repeat(first|refine Zd1 ?_)
    obtain ⟨H1,e1⟩:∃ X,X=G.set os (some (Blk.mk (s.styles.flatMap Xt) 100 true)):=⟨_,rfl⟩
    have hG1:=hG.set (k:=1) rfl (Blk.mk (s.styles.flatMap Xt) 100 true)
    rw [← e1] at hG1
    refine Z7 ?_
    repeat(first|refine ZdB ?_|refine ZdC ?_|refine Y_r 0 (by decide +kernel) (by decide +kernel) rfl rfl rfl rfl (by decide) (Xm rfl rfl (hG.get 1 _ _ rfl) (XyN rfl (by exact hcell))) ?_|refine Y_k rfl rfl rfl (by decide) (fun _=>Iso.K rfl rfl rfl rfl cx (TreeL.cons (XT _) TreeL.nil)) ?_|refine Y_s 0 (by decide +kernel) rfl rfl rfl rfl (Xap rfl rfl rfl (hG.get 1 _ _ rfl) rfl rfl rfl (by exact hle) (by exact Xm7 hcell)) e1 ?_|refine Zd6 ?_)
    have hG:Has H1 [(ol,⟨s.lists.flatMap XaE,103,true⟩),(os,⟨s.styles.flatMap Xt,100,true⟩),(g1,⟨[.sl os 0 s.styles.length 6,.sl ol 0 s.lists.length 2,X9 s.comments,Xds s.vars],51,true⟩),(ir,⟨[Xaw,Xaw,Xaw,Xaw],51,true⟩),(ib,⟨XaW s,51,true⟩)]:=hG1
    repeat(first|refine Zd1 ?_)
    exact ZbN
  have ei:i=s.styles.length:=by omega
  subst ei
  clear hi hil
  repeat(first|refine Zd1 ?_|refine Zbh ?_)
  refine Xg (S:=Nat) (fun i=>[(2,.ptr ir 0),(3,.ptr g1 0),(40,I s.lists.length),(41,I i)]) (fun i G=>i≤s.lists.length∧Has G [(ol,⟨s.lists.flatMap XaE,103,true⟩),(os,⟨s.styles.flatMap Xt,100,true⟩),(g1,⟨[.sl os 0 s.styles.length 6,.sl ol 0 s.lists.length 2,X9 s.comments,Xds s.vars],51,true⟩),(ir,⟨[Xaw,Xaw,Xaw,Xaw],51,true⟩),(ib,⟨XaW s,51,true⟩)]) (fun i=>s.lists.length - i) 0
    (.cons rfl (.cons rfl (.cons rfl (.cons rfl (.nil _))))) ⟨Nat.zero_le _,hG⟩ ?_
  clear hG
  rintro i G ⟨hi,hG⟩
  try dsimp only at hi hG ⊢
  by_cases hil:i < s.lists.length
  · obtain ⟨x,hx⟩:∃ x,s.lists[i]?=some x:=⟨_,List.getElem?_eq_getElem hil⟩
    have cx:=XkZ x.levels (by have:=b6 i x hx;omega)
    have hcell:=Xhl XpP s.lists i x 1 (Xha x.levels) hx rfl
    have e0:i * 2+1=0+i * 2+1:=by omega
    rw [e0] at hcell
    have hle:Nat.ble (0+i * 2+1+1) (s.lists.flatMap XaE).length=true:=by rw [Nat.ble_eq,n101];omega
    repeat(first|refine Zd1 ?_)
    obtain ⟨H1,e1⟩:∃ X,X=G.set ol (some (Blk.mk (s.lists.flatMap XaE) 103 true)):=⟨_,rfl⟩
    have hG1:=hG.set (k:=0) rfl (Blk.mk (s.lists.flatMap XaE) 103 true)
    rw [← e1] at hG1
    refine Z7 ?_
    repeat(first|refine ZdB ?_|refine ZdC ?_|refine Y_r 0 (by decide +kernel) (by decide +kernel) rfl rfl rfl rfl (by decide) (Xm rfl rfl (hG.get 0 _ _ rfl) (XyN rfl (by exact hcell))) ?_|refine Y_k rfl rfl rfl (by decide) (fun _=>Iso.K rfl rfl rfl rfl cx (TreeL.cons (XbK _) TreeL.nil)) ?_|refine Y_s 0 (by decide +kernel) rfl rfl rfl rfl (Xap rfl rfl rfl (hG.get 0 _ _ rfl) rfl rfl rfl (by exact hle) (by exact Xm7 hcell)) e1 ?_|refine Zd6 ?_)
    have hG:Has H1 [(ol,⟨s.lists.flatMap XaE,103,true⟩),(os,⟨s.styles.flatMap Xt,100,true⟩),(g1,⟨[.sl os 0 s.styles.length 6,.sl ol 0 s.lists.length 2,X9 s.comments,Xds s.vars],51,true⟩),(ir,⟨[Xaw,Xaw,Xaw,Xaw],51,true⟩),(ib,⟨XaW s,51,true⟩)]:=hG1
    repeat(first|refine Zd1 ?_)
    exact ZbN
  have ei:i=s.lists.length:=by omega
  subst ei
  clear hi hil
  repeat(first|refine Zd1 ?_|refine Zbh ?_|(refine XbI 3 hG rfl rfl rfl rfl rfl rfl rfl rfl rfl rfl rfl ?_;intro G hG))
  refine XcN rfl rfl (XaR (hG.get 3 _ _ rfl)) (q:=.agg (XaW s)) (ConvL.agg (.cons (Conv.own hG (k:=1) rfl n100) (.cons (Conv.own hG (k:=0) rfl n101) (.cons (.refl _) (.cons (.refl _) .nil))))) (Xi.agg (Xa (XI _) (Xa (XaL _) (Xa (XaM _) (Xa (Xb8 _) Xp))))) rfl
end Go.Proofs.YtlcphjcpoinolaaGreat
namespace Go.Th
open Go.RowKit
section
variable {P:Program} {o:Oper} {E:Env} {H:Xh}
end
end Go.Th
