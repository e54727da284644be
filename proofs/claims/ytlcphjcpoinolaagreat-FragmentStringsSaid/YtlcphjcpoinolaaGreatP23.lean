/- Part of the proof: the walk over the program and its laws: Qc. -/
import Derived.Test.YtlcphjcpoinolaaGreatP0
import Derived.Test.YtlcphjcpoinolaaGreatP18
set_option linter.unusedVariables false
namespace Go.Proofs.YtlcphjcpoinolaaGreat
open Go.RowKit Go.Th
set_option maxRecDepth 20000
end Go.Proofs.YtlcphjcpoinolaaGreat
namespace Go.Th
open Go.RowKit
theorem Xdd {H:Xh} {L:List (Nat × Blk)}:Has H L↔(∀ x ∈ L,H[x.1]?=some (some x.2))∧L.Pairwise (fun x y=>x.1≠y.1):=by
  constructor
  · intro h
    refine ⟨fun x hx=>?_,List.pairwise_iff_getElem.2 fun i j hi hj hij=>h.ne i j _ _ (by omega) (List.getElem?_eq_getElem hi) (List.getElem?_eq_getElem hj)⟩
    obtain ⟨k,hk⟩:=List.mem_iff_getElem?.1 hx
    exact h.get k x.1 x.2 hk
  · rintro ⟨h1,h2⟩
    refine ⟨fun k id B hk=>h1 (id,B) (List.mem_of_getElem? hk),fun i j x y hij hi hj=>?_⟩
    obtain ⟨hi1,rfl⟩:=List.getElem?_eq_some_iff.1 hi
    obtain ⟨hj1,rfl⟩:=List.getElem?_eq_some_iff.1 hj
    rcases Nat.lt_or_gt_of_ne hij with h | h
    · exact List.pairwise_iff_getElem.1 h2 i j hi1 hj1 h
    · exact fun e=>List.pairwise_iff_getElem.1 h2 j i hj1 hi1 h e.symm
theorem Has.perm {H:Xh} {L L':List (Nat × Blk)} (h:Has H L) (hp:L.Perm L'):Has H L':=by
  obtain ⟨h1,h2⟩:=Xdd.1 h
  exact Xdd.2 ⟨fun x hx=>h1 x (hp.mem_iff.2 hx),(hp.pairwise_iff (fun h e=>h e.symm)).1 h2⟩
theorem Has.swap6 {H:Xh} {a b c d e f:Nat × Blk} (A:List (Nat × Blk)) {K:List (Nat × Blk)} (h:Has H (A++(a::b::c::d::e::f::K))):Has H (a::b::c::d::e::f::(A++K)) :=
  h.perm (List.perm_append_comm_assoc A [a,b,c,d,e,f] K)
theorem Has.dropA {H:Xh} {L:List (Nat × Blk)}:∀ (A:List (Nat × Blk)),Has H (A++L)→Has H L
  | [],h=>h
  | _::A,h=>Has.dropA A h.tail
theorem Has.cut6 {H:Xh} {a b c d e f:Nat × Blk} (A:List (Nat × Blk)) {K:List (Nat × Blk)} (h:Has H (a::b::c::d::e::f::(A++K))):Has H (a::b::c::d::e::f::K) :=
  Has.dropA A (h.perm (List.perm_append_comm_assoc [a,b,c,d,e,f] A K))
end Go.Th
namespace Go.Proofs.YtlcphjcpoinolaaGreat
open Go.RowKit Go.Th
theorem CkH.cut {c:CkId} {s:CkS} (A:List (Nat × Blk)) {K:List (Nat × Blk)} {H:Xh} (h:CkH c s (A++K) H):CkH c s K H:=by
  obtain ⟨es,el,er,eb,eu,ts,tl,tr,tb,tu,hG,a⟩:=h
  exact ⟨es,el,er,eb,eu,ts,tl,tr,tb,tu,hG.cut6 A,a⟩
def XoN {σ:Type} (f:Nat→σ→Int × σ):Nat→Nat→σ→Int × σ
  | 0,_,s=>(0,s)
  | k+1,i,s=>if (f i s).1=0 then XoN f k (i+1) (f i s).2 else f i s
set_option maxHeartbeats 4000000 in
theorem Xtx {σ:Type} (Hp:σ→Xh→Prop) (f:Nat→σ→Int × σ) (n:Nat) (hn:n≤1000000) (g:FuncId) (cap:List PV) (h:∀ i s G,i < n→Hp s G→AC Tryz.prog g ([I i]++cap) G (fun p G'=>p=I (f i s).1∧Hp (f i s).2 G'))
    (s:σ) (H:Xh) (hs:Hp s H):AC Tryz.prog 108 [I n,.fn (.func g) cap] H (fun p G=>p=I (XoN f n 0 s).1∧Hp (XoN f n 0 s).2 G):=by
  have hG:=Has.nil H
  refine Xw Tryz.func108 rfl rfl rfl ?_
  repeat(first|refine Zd1 ?_)
  refine Xg (S:=Nat × σ) (fun x=>[(1,.fn (.func g) cap),(7,I n),(8,I x.1)]) (fun x G=>x.1≤n∧XoN f n 0 s=XoN f (n - x.1) x.1 x.2∧Hp x.2 G) (fun x=>n - x.1) (0,s)
    (.cons rfl (.cons rfl (.cons rfl (.nil _)))) ⟨Nat.zero_le _,rfl,hs⟩ ?_
  clear hG hs
  rintro ⟨i,s'⟩ G ⟨hi,hf,hs⟩
  dsimp only at hi hf hs ⊢
  have hG:=Has.nil G
  by_cases hil:i < n
  · have hk:=h i s' G hil hs
    rw [show n - i=(n - (i+1))+1 from by omega,XoN] at hf
    rcases hfi:f i s' with ⟨r,s2⟩
    rw [hfi] at hk hf
    dsimp only at hk hf
    by_cases h0:r=0
    · rw [if_pos h0] at hf
      repeat(first|refine Zd1 ?_|(refine Zcs ?_;rintro _ G ⟨rfl,hp⟩;have hG:=Has.nil G))
      exact ⟨(i+1,s2),by dsimp only;omega,.cons rfl (.cons rfl (.cons rfl (.nil _))),by dsimp only;omega,hf,hp⟩
    · rw [if_neg h0] at hf
      repeat(first|refine Zd1 ?_|(refine Zcs ?_;rintro _ G ⟨rfl,hp⟩;have hG:=Has.nil G))
      exact XG rfl rfl ⟨by rw [hf],by rw [hf];exact hp⟩
  rw [show n - i=0 from by omega,XoN] at hf
  repeat(first|refine Zd1 ?_)
  exact XG rfl rfl ⟨by rw [hf];rfl,by rw [hf];exact hs⟩
theorem XiE {σ:Type} (e:Nat→Int) (s:σ):∀ (k i:Nat),XoN (fun i s=>(e i,s)) k i s=(XqR e k i,s)
  | 0,_=>rfl
  | k+1,i=>by
    rw [XoN,XqR]
    dsimp only
    split
    · exact XiE e s k (i+1)
    · rfl
set_option maxHeartbeats 4000000 in
theorem Xse (c:CkId) (s:CkS) (K:List (Nat × Blk)) (b3 b4 b5 b11:Nat) (e0:Int) (h:Head) (hl:h.lyrs.length≤1000000) (G:Xh) (hc:CkH c s ((b11,⟨[I h.ins,I h.move,Xy h.dels,Xx h.lyrs],41,true⟩)::(b5,⟨XN h,43,true⟩)::(b4,⟨[I e0],3,true⟩)::(b3,⟨[.ptr c.ic 0],107,true⟩)::K) G) (i:Nat) (hi:i < h.lyrs.length) :
    AC Tryz.prog 116 [I i,.ptr b3 0,.ptr b4 0,.ptr b11 0] G (fun p G'=>p=I (Xtk s e0 h.lyrs i)∧CkH c s ((b11,⟨[I h.ins,I h.move,Xy h.dels,Xx h.lyrs],41,true⟩)::(b5,⟨XN h,43,true⟩)::(b4,⟨[I e0],3,true⟩)::(b3,⟨[.ptr c.ic 0],107,true⟩)::K) G'):=by
  have hk:=Xr3 c s _ G hc e0 h.lyrs i hi hl
  obtain ⟨es,el,er,eb,eu,ts,tl,tr,tb,tu,hG,a1,a2,a3,a4,a5⟩:=hc
  refine Xw Tryz.func116 rfl rfl rfl ?_
  repeat(first|refine Zd1 ?_|refine Xbl 6 hG rfl rfl (by decide) rfl rfl rfl rfl ?_|refine Zct ?_|refine Zcu ?_|(refine Zcs ?_;rintro _ G ⟨rfl,hq⟩))
  exact XG rfl rfl ⟨rfl,hq⟩
def XiY (s:CkS):List Prp→Int
  | []=>0
  | p::l=>if Xpp s p.key p.val=0 then XiY s l else Xpp s p.key p.val
def Xsu (s:CkS):Option Int→List Dl→Int
  | _,[]=>0
  | q,d::l=>if s.revs d.rev=false then 22 else if (match q with | some k=>decide (d.rev≤k) | none=>false)=true then 6 else if inF d.move 0 1073741824=false then 21 else Xsu s (some d.rev) l
theorem Xst (s:CkS) (q:Option Int):Xsu s q []=0:=by cases q <;> rfl
theorem XkU (s:CkS) (q:Option Int) (d:Dl) (l:List Dl):Xsu s q (d::l)=if s.revs d.rev=false then 22 else if (match q with | some k=>decide (d.rev≤k) | none=>false)=true then 6 else if inF d.move 0 1073741824=false then 21 else Xsu s (some d.rev) l:=by cases q <;> rfl
def Xee (l:List Dl) (i:Nat):Option Int:=if i=0 then none else (l[i - 1]?).map Dl.rev
def XeP (s:CkS) (e0:Int) (h:Head):Int:=if h.dels.length≤16 then (if Xsu s none h.dels=0 then (if 64 < h.lyrs.length then 9 else XmA (Xtk s e0 h.lyrs) h.lyrs.length) else Xsu s none h.dels) else 9
def Xcb (s:CkS) (e0:Int) (h:Head):Int :=
  if Xb0 e0 h.props=0 then (if XiY s h.props=0 then (if h.ins≠0∧s.revs h.ins=false then 22 else if inF h.move 0 1073741824=false then 21 else if h.move≠0∧h.ins=0 then 21 else XeP s e0 h) else XiY s h.props) else Xb0 e0 h.props
structure HeadOk (h:Head):Prop where
  p:h.props.length≤1000000
  d:h.dels.length≤1000000
  l:h.lyrs.length≤1000000
set_option maxHeartbeats 64000000 in
theorem Xjc (c:CkId) (s:CkS) (K:List (Nat × Blk)) (H:Xh) (hc:CkH c s K H) (e0:Int) (h:Head) (hh:HeadOk h):AC Tryz.prog 49 [.ptr c.ic 0,I e0,.agg (XN h)] H (fun p G=>p=I (Xcb s e0 h)∧CkH c s K G):=by
  obtain ⟨hh1,hh2,hh3⟩:=hh
  obtain ⟨e,he⟩:∃ e,Xcb s e0 h=e:=⟨_,rfl⟩
  rw [he]
  unfold Xcb at he
  obtain ⟨es,el,er,eb,eu,ts,tl,tr,tb,tu,hG,a1,a2,a3,a4,a5⟩:=hc
  have out:∀ (A:List (Nat × Blk)) {G:Xh},Has G ((c.ic,ckB c s.units)::(c.is,XM kyI es ts)::(c.il,XM kyI el tl)::(c.ir,XM kyI er tr)::(c.ib,XM kyI eb tb)::(c.iu,XM kyI eu tu)::(A++K))→CkH c s K G:=fun A G hG=>⟨es,el,er,eb,eu,ts,tl,tr,tb,tu,hG.cut6 A,a1,a2,a3,a4,a5⟩
  have hP:=Xll e0 h.props hh1
  have tP:∀ c ∈ [I e0,Xn h.props],Xi c:=TreeL.cons (Xe _) (TreeL.cons (XT _) TreeL.nil)
  refine Xw Tryz.func49 rfl rfl rfl ?_
  refine Zc ?_
  refine Zb ?_
  repeat(first|refine Zd ?_|(refine ZI ?_;intro id G hG))
  refine Za ?_
  rename_i b3 _ _ b4 _ _
  obtain ⟨b5,hb5⟩:∃ b5,b5=id:=⟨_,rfl⟩
  rw [← hb5] at hG ⊢
  refine Xb7 (L:=(c.ic,ckB c s.units)::(c.is,XM kyI es ts)::(c.il,XM kyI el tl)::(c.ir,XM kyI er tr)::(c.ib,XM kyI eb tb)::(c.iu,XM kyI eu tu)::(b5,⟨XN h,43,true⟩)::(b4,⟨[I e0],3,true⟩)::(b3,⟨[.ptr c.ic 0],107,true⟩)::K) (Has.swap6 [(b5,⟨XN h,43,true⟩),(b4,⟨[I e0],3,true⟩),(b3,⟨[.ptr c.ic 0],107,true⟩)] hG) ?_
  clear hG hb5
  intro G hG
  by_cases k1:Xb0 e0 h.props=0
  rotate_left
  · rw [if_neg k1] at he
    generalize Xb0 e0 h.props=w at hP he k1
    repeat(first|refine Zd1 ?_|refine ZR ?_|refine Zaq ?_|(refine Xr rfl rfl rfl rfl rfl rfl (by decide) hP tP ?_;rintro _ rfl))
    exact XG rfl rfl ⟨by rw [← he],out [(b5,⟨XN h,43,true⟩),(b4,⟨[I e0],3,true⟩),(b3,⟨[.ptr c.ic 0],107,true⟩)] hG⟩
  rw [if_pos k1] at he
  rw [k1] at hP
  repeat(first|refine Zd1 ?_|refine ZR ?_|refine Zaq ?_|(refine Xr rfl rfl rfl rfl rfl rfl (by decide) hP tP ?_;rintro _ rfl))
  refine Xg (S:=Nat) (fun i=>[(3,.ptr b3 0),(4,.ptr b4 0),(5,.ptr b5 0),(22,Xn h.props),(23,I h.props.length),(24,I i)]) (fun i G=>i≤h.props.length∧XiY s h.props=XiY s (h.props.drop i)∧Has G ((c.ic,ckB c s.units)::(c.is,XM kyI es ts)::(c.il,XM kyI el tl)::(c.ir,XM kyI er tr)::(c.ib,XM kyI eb tb)::(c.iu,XM kyI eu tu)::(b5,⟨XN h,43,true⟩)::(b4,⟨[I e0],3,true⟩)::(b3,⟨[.ptr c.ic 0],107,true⟩)::K)) (fun i=>h.props.length - i) 0
    (.cons rfl (.cons rfl (.cons rfl (.cons rfl (.cons rfl (.cons rfl (.nil _))))))) ⟨Nat.zero_le _,rfl,hG⟩ ?_
  clear hG
  rintro i G ⟨hi,hf,hG⟩
  by_cases hil:i < h.props.length
  · obtain ⟨p,hp⟩:∃ p,h.props[i]?=some p:=⟨_,List.getElem?_eq_getElem hil⟩
    have o1:Xai 2 ((h.props.flatMap Xa1).drop ((i:Int).toNat * 2))=some (Xa1 p):=Xu (fun x=>by cases x;rfl) h.props i p hp
    rw [Xak hp,XiY] at hf
    obtain ⟨r,hr0⟩:∃ r,Xpp s p.key p.val=r:=⟨_,rfl⟩
    rw [hr0] at hf
    by_cases k2:r=0
    · rw [if_pos k2] at hf
      repeat(first|refine Zd1 ?_|refine Xj rfl rfl (by decide) (Xm rfl rfl (hG.get 0 _ _ rfl) rfl) ?_|refine Zcu ?_|refine Zdp ?_|(refine Zdq ?_;rintro _ _ ⟨hr,rfl⟩;rw [hr0] at hr;subst hr)|(refine ZA ?_;intro G hG)|(refine ZD ?_;intro id G hG))
      exact ⟨i+1,by omega,.cons rfl (.cons rfl (.cons rfl (.cons rfl (.cons rfl (.cons rfl (.nil _)))))),by omega,hf,hG.tail⟩
    · rw [if_neg k2] at hf
      rw [hf,if_neg k2] at he
      repeat(first|refine Zd1 ?_|refine Xj rfl rfl (by decide) (Xm rfl rfl (hG.get 0 _ _ rfl) rfl) ?_|refine Zcu ?_|refine Zdp ?_|(refine Zdq ?_;rintro _ _ ⟨hr,rfl⟩;rw [hr0] at hr;subst hr)|(refine ZA ?_;intro G hG)|(refine ZD ?_;intro id G hG))
      exact XG rfl rfl ⟨by rw [← he],out [(b5,⟨XN h,43,true⟩),(b4,⟨[I e0],3,true⟩),(b3,⟨[.ptr c.ic 0],107,true⟩)] hG.tail⟩
  have e1:h.props.drop i=[]:=List.drop_eq_nil_of_le (by omega)
  rw [e1,XiY] at hf
  rw [hf,if_pos rfl] at he
  clear e1 hf
  repeat(first|refine Zd7 ?_|refine ZR ?_|(refine ZA ?_;intro G hG)|(refine ZD ?_;intro id G hG)|refine ZH ?_)
  obtain ⟨b11,hb⟩:∃ b11,b11=id:=⟨_,rfl⟩
  rw [← hb] at hG ⊢
  refine Xb7 (L:=(c.ic,ckB c s.units)::(c.is,XM kyI es ts)::(c.il,XM kyI el tl)::(c.ir,XM kyI er tr)::(c.ib,XM kyI eb tb)::(c.iu,XM kyI eu tu)::(b11,⟨[I h.ins,I h.move,Xy h.dels,Xx h.lyrs],41,true⟩)::(b5,⟨XN h,43,true⟩)::(b4,⟨[I e0],3,true⟩)::(b3,⟨[.ptr c.ic 0],107,true⟩)::K) (Has.swap6 [(b11,⟨[I h.ins,I h.move,Xy h.dels,Xx h.lyrs],41,true⟩)] hG) ?_
  clear hG hb
  intro G hG
  have u3:=a3 h.ins
  have hI:=Xct h.move 0 1073741824
  have tI:∀ c ∈ [I h.move,I 0,I 1073741824],Xi c:=TreeL.cons (Xe _) (TreeL.cons (Xe _) (TreeL.cons (Xe _) TreeL.nil))
  (first | refine XbR (S:=Unit) (fun _=>[(3,.ptr b3 0),(4,.ptr b4 0),(11,.ptr b11 0)]) (fun _ G=>Has G ((c.ic,ckB c s.units)::(c.is,XM kyI es ts)::(c.il,XM kyI el tl)::(c.ir,XM kyI er tr)::(c.ib,XM kyI eb tb)::(c.iu,XM kyI eu tu)::(b11,⟨[I h.ins,I h.move,Xy h.dels,Xx h.lyrs],41,true⟩)::(b5,⟨XN h,43,true⟩)::(b4,⟨[I e0],3,true⟩)::(b3,⟨[.ptr c.ic 0],107,true⟩)::K)∧h.dels.length≤16∧XeP s e0 h=e) ?_ ?_ | refine Xcw (S:=Unit) (fun _=>[(3,.ptr b3 0),(4,.ptr b4 0),(11,.ptr b11 0)]) (fun _ G=>Has G ((c.ic,ckB c s.units)::(c.is,XM kyI es ts)::(c.il,XM kyI el tl)::(c.ir,XM kyI er tr)::(c.ib,XM kyI eb tb)::(c.iu,XM kyI eu tu)::(b11,⟨[I h.ins,I h.move,Xy h.dels,Xx h.lyrs],41,true⟩)::(b5,⟨XN h,43,true⟩)::(b4,⟨[I e0],3,true⟩)::(b3,⟨[.ptr c.ic 0],107,true⟩)::K)∧h.dels.length≤16∧XeP s e0 h=e) ?_ ?_)
  · cases hv:s.revs h.ins with
    | false =>
      rw [hv] at u3
      by_cases i0:h.ins=0
      · rw [if_neg (fun h=>h.1 i0)] at he
        cases hin:inF h.move 0 1073741824 with
        | false =>
          rw [if_pos hin] at he;rw [hin] at hI
          repeat(first|refine Zd1 ?_)
          refine Zz ?_
          repeat(first|refine Zaj ?_|refine ZaR ?_|refine Zd2 ?_)
          repeat(first|refine Zd1 ?_|refine ZR ?_|(refine Zaa ?_;rintro _ rfl)|refine ZX ?_)
          exact Zax
        | true =>
          rw [if_neg (by rw [hin];decide)] at he;rw [hin] at hI
          by_cases m0:h.move=0
          · rw [if_neg (fun h=>h.1 m0)] at he
            by_cases c9:h.dels.length≤16
            · skip
              repeat(first|refine Zd1 ?_)
              refine Zz ?_
              repeat(first|refine Zaj ?_|refine ZaR ?_|refine Zd2 ?_)
              repeat(first|refine Zd1 ?_|refine ZR ?_|(refine Zaa ?_;rintro _ rfl)|refine ZN ?_|refine ZU ?_)
              exact ZbS
            · unfold XeP at he;rw [if_neg c9] at he
              repeat(first|refine Zd1 ?_)
              refine Zz ?_
              repeat(first|refine Zaj ?_|refine ZaR ?_|refine Zd2 ?_)
              repeat(first|refine Zd1 ?_|refine ZR ?_|(refine Zaa ?_;rintro _ rfl))
              exact Zax
          · rw [if_pos ⟨m0,i0⟩] at he
            repeat(first|refine Zd1 ?_)
            refine Zz ?_
            repeat(first|refine Zaj ?_|refine ZaR ?_|refine Zd2 ?_)
            repeat(first|refine Zd1 ?_|refine ZR ?_|(refine Zaa ?_;rintro _ rfl))
            exact Zax
      · rw [if_pos ⟨i0,hv⟩] at he
        repeat(first|refine Zd1 ?_)
        refine Zz ?_
        repeat(first|refine Zaj ?_|refine Za9 ?_|refine Zba ?_|refine ZV ?_|refine Zbb ?_|refine Za1 ?_|refine Zd2 ?_|refine Zbc ?_|refine Zbd ?_)
        repeat(first|refine Zd1 ?_)
        exact Zax
    | true =>
      rw [hv] at u3
      rw [if_neg (fun h=>by simp [hv] at h)] at he
      by_cases i0:h.ins=0
      · skip
        cases hin:inF h.move 0 1073741824 with
        | false =>
          rw [if_pos hin] at he;rw [hin] at hI
          repeat(first|refine Zd1 ?_)
          refine Zz ?_
          repeat(first|refine Zaj ?_|refine ZaR ?_|refine Zd2 ?_)
          repeat(first|refine Zd1 ?_|refine ZR ?_|(refine Zaa ?_;rintro _ rfl)|refine ZX ?_)
          exact Zax
        | true =>
          rw [if_neg (by rw [hin];decide)] at he;rw [hin] at hI
          by_cases m0:h.move=0
          · rw [if_neg (fun h=>h.1 m0)] at he
            by_cases c9:h.dels.length≤16
            · skip
              repeat(first|refine Zd1 ?_)
              refine Zz ?_
              repeat(first|refine Zaj ?_|refine ZaR ?_|refine Zd2 ?_)
              repeat(first|refine Zd1 ?_|refine ZR ?_|(refine Zaa ?_;rintro _ rfl)|refine ZN ?_|refine ZU ?_)
              exact ZbS
            · unfold XeP at he;rw [if_neg c9] at he
              repeat(first|refine Zd1 ?_)
              refine Zz ?_
              repeat(first|refine Zaj ?_|refine ZaR ?_|refine Zd2 ?_)
              repeat(first|refine Zd1 ?_|refine ZR ?_|(refine Zaa ?_;rintro _ rfl))
              exact Zax
          · rw [if_pos ⟨m0,i0⟩] at he
            repeat(first|refine Zd1 ?_)
            refine Zz ?_
            repeat(first|refine Zaj ?_|refine ZaR ?_|refine Zd2 ?_)
            repeat(first|refine Zd1 ?_|refine ZR ?_|(refine Zaa ?_;rintro _ rfl))
            exact Zax
      · skip
        cases hin:inF h.move 0 1073741824 with
        | false =>
          rw [if_pos hin] at he;rw [hin] at hI
          repeat(first|refine Zd1 ?_)
          refine Zz ?_
          repeat(first|refine Zaj ?_|refine Za9 ?_|refine Zba ?_|refine ZV ?_|refine Zbb ?_|refine Za1 ?_|refine Zd2 ?_|refine Zbc ?_|refine Zbd ?_)
          repeat(first|refine Zd1 ?_|refine ZR ?_|(refine Zaa ?_;rintro _ rfl)|refine ZX ?_)
          exact Zax
        | true =>
          rw [if_neg (by rw [hin];decide)] at he;rw [hin] at hI
          by_cases m0:h.move=0
          · rw [if_neg (fun h=>h.1 m0)] at he
            by_cases c9:h.dels.length≤16
            · skip
              repeat(first|refine Zd1 ?_)
              refine Zz ?_
              repeat(first|refine Zaj ?_|refine Za9 ?_|refine Zba ?_|refine ZV ?_|refine Zbb ?_|refine Za1 ?_|refine Zd2 ?_|refine Zbc ?_|refine Zbd ?_)
              repeat(first|refine Zd1 ?_|refine ZR ?_|(refine Zaa ?_;rintro _ rfl)|refine ZN ?_|refine ZU ?_)
              exact ZbS
            · unfold XeP at he;rw [if_neg c9] at he
              repeat(first|refine Zd1 ?_)
              refine Zz ?_
              repeat(first|refine Zaj ?_|refine Za9 ?_|refine Zba ?_|refine ZV ?_|refine Zbb ?_|refine Za1 ?_|refine Zd2 ?_|refine Zbc ?_|refine Zbd ?_)
              repeat(first|refine Zd1 ?_|refine ZR ?_|(refine Zaa ?_;rintro _ rfl))
              exact Zax
          · rw [if_neg (fun h=>i0 h.2)] at he
            by_cases c9:h.dels.length≤16
            · skip
              repeat(first|refine Zd1 ?_)
              refine Zz ?_
              repeat(first|refine Zaj ?_|refine Za9 ?_|refine Zba ?_|refine ZV ?_|refine Zbb ?_|refine Za1 ?_|refine Zd2 ?_|refine Zbc ?_|refine Zbd ?_)
              repeat(first|refine Zd1 ?_|refine ZR ?_|(refine Zaa ?_;rintro _ rfl)|refine ZN ?_|refine ZU ?_)
              exact ZbS
            · unfold XeP at he;rw [if_neg c9] at he
              repeat(first|refine Zd1 ?_)
              refine Zz ?_
              repeat(first|refine Zaj ?_|refine Za9 ?_|refine Zba ?_|refine ZV ?_|refine Zbb ?_|refine Za1 ?_|refine Zd2 ?_|refine Zbc ?_|refine Zbd ?_)
              repeat(first|refine Zd1 ?_|refine ZR ?_|(refine Zaa ?_;rintro _ rfl))
              exact Zax
  rintro ⟨⟩ G ⟨hG,c9,he⟩
  clear u3 hI tI
  unfold XeP at he
  rw [if_pos c9] at he
  repeat(first|refine Zd1 ?_|refine ZR ?_)
  refine Xg (S:=Nat) (fun i=>[(3,.ptr b3 0),(4,.ptr b4 0),(11,.ptr b11 0),(75,Xy h.dels),(76,I h.dels.length),(77,I i)]) (fun i G=>i≤h.dels.length∧Xsu s none h.dels=Xsu s (Xee h.dels i) (h.dels.drop i)∧Has G ((c.ic,ckB c s.units)::(c.is,XM kyI es ts)::(c.il,XM kyI el tl)::(c.ir,XM kyI er tr)::(c.ib,XM kyI eb tb)::(c.iu,XM kyI eu tu)::(b11,⟨[I h.ins,I h.move,Xy h.dels,Xx h.lyrs],41,true⟩)::(b5,⟨XN h,43,true⟩)::(b4,⟨[I e0],3,true⟩)::(b3,⟨[.ptr c.ic 0],107,true⟩)::K)) (fun i=>h.dels.length - i) 0
    (.cons rfl (.cons rfl (.cons rfl (.cons rfl (.cons rfl (.cons rfl (.nil _))))))) ⟨Nat.zero_le _,by simp [Xee],hG⟩ ?_
  clear hG
  rintro i G ⟨hi,hf,hG⟩
  by_cases hil:i < h.dels.length
  · obtain ⟨d,hd⟩:∃ d,h.dels[i]?=some d:=⟨_,List.getElem?_eq_getElem hil⟩
    have o1:Xai 2 ((h.dels.flatMap Xdc).drop ((i:Int).toNat * 2))=some (Xdc d):=Xu (fun x=>by cases x;rfl) h.dels i d hd
    have u3:=a3 d.rev
    have hI:=Xct d.move 0 1073741824
    have tI:∀ c ∈ [I d.move,I 0,I 1073741824],Xi c:=TreeL.cons (Xe _) (TreeL.cons (Xe _) (TreeL.cons (Xe _) TreeL.nil))
    have hnx:Xee h.dels (i+1)=some d.rev:=by simp [Xee,hd]
    rw [Xak hd,XkU] at hf
    repeat(first|refine Zd1 ?_|refine Xj rfl rfl (by decide) (Xf (cells:=h.dels.flatMap Xdc) rfl rfl rfl (by omega) (by exact o1)) ?_|(refine ZA ?_;intro G hG)|(refine ZD ?_;intro id G hG))
    refine Xb7 (L:=(id,⟨Xdc d,199,true⟩)::(c.ic,ckB c s.units)::(c.is,XM kyI es ts)::(c.il,XM kyI el tl)::(c.ir,XM kyI er tr)::(c.ib,XM kyI eb tb)::(c.iu,XM kyI eu tu)::(b11,⟨[I h.ins,I h.move,Xy h.dels,Xx h.lyrs],41,true⟩)::(b5,⟨XN h,43,true⟩)::(b4,⟨[I e0],3,true⟩)::(b3,⟨[.ptr c.ic 0],107,true⟩)::K) hG ?_
    clear hG
    intro G hG
    cases hv:s.revs d.rev with
    | false =>
      rw [if_pos hv] at hf;rw [hv] at u3
      rw [hf,if_neg (by decide)] at he
      skip
      refine Zz ?_
      repeat(first|refine Zae ?_|refine Zbe ?_|refine Zah ?_|refine Zao ?_|refine Zd2 ?_)
      repeat(first|refine Zd1 ?_)
      exact ZbT
    | true =>
    rw [if_neg (by rw [hv];decide)] at hf;rw [hv] at u3
    by_cases h0:0 < i
    · obtain ⟨q,hq⟩:∃ q,h.dels[i - 1]?=some q:=⟨_,List.getElem?_eq_getElem (by omega)⟩
      have o2:Xai 2 ((h.dels.flatMap Xdc).drop (((i:Int) - 1).toNat * 2))=some (Xdc q):=by
        rw [show ((i:Int) - 1).toNat=i - 1 by omega];exact Xu (fun x=>by cases x;rfl) h.dels (i - 1) q hq
      have hpk:Xee h.dels i=some q.rev:=by unfold Xee;rw [if_neg (by omega),hq];rfl
      rw [hpk] at hf
      dsimp only at hf
      by_cases c4:d.rev≤q.rev
      · rw [if_pos (decide_eq_true c4)] at hf
        rw [hf,if_neg (by decide)] at he
        skip
        refine Zz ?_
        repeat(first|refine Zae ?_|refine Zbe ?_|refine Zah ?_|refine Zao ?_|refine Zd2 ?_)
        repeat(first|refine Zd1 ?_)
        refine Zz ?_
        repeat(first|refine ZV ?_|refine Zcv ?_|refine Zcw ?_|refine Zd2 ?_)
        repeat(first|refine Zd1 ?_)
        exact ZbT
      rw [if_neg (fun h=>c4 (of_decide_eq_true h))] at hf
      cases hin:inF d.move 0 1073741824 with
      | false =>
        rw [if_pos hin] at hf;rw [hin] at hI
        rw [hf,if_neg (by decide)] at he
        skip
        refine Zz ?_
        repeat(first|refine Zae ?_|refine Zbe ?_|refine Zah ?_|refine Zao ?_|refine Zd2 ?_)
        repeat(first|refine Zd1 ?_)
        refine Zz ?_
        repeat(first|refine ZV ?_|refine Zcv ?_|refine Zcw ?_|refine Zd2 ?_)
        repeat(first|refine Zd1 ?_|(refine Zaa ?_;rintro _ rfl))
        exact ZbT
      | true =>
        rw [if_neg (by rw [hin];decide)] at hf;rw [hin] at hI
        skip
        refine Zz ?_
        repeat(first|refine Zae ?_|refine Zbe ?_|refine Zah ?_|refine Zao ?_|refine Zd2 ?_)
        repeat(first|refine Zd1 ?_)
        refine Zz ?_
        repeat(first|refine ZV ?_|refine Zcv ?_|refine Zcw ?_|refine Zd2 ?_)
        repeat(first|refine Zd1 ?_|(refine Zaa ?_;rintro _ rfl))
        exact Zdr
    · have o2:=o1
      have hpk:Xee h.dels i=none:=by unfold Xee;rw [if_pos (by omega)]
      rw [hpk,if_neg (by simp)] at hf
      cases hin:inF d.move 0 1073741824 with
      | false =>
        rw [if_pos hin] at hf;rw [hin] at hI
        rw [hf,if_neg (by decide)] at he
        skip
        refine Zz ?_
        repeat(first|refine Zae ?_|refine Zbe ?_|refine Zah ?_|refine Zao ?_|refine Zd2 ?_)
        repeat(first|refine Zd1 ?_)
        refine Zz ?_
        repeat(first|refine Zd2 ?_)
        repeat(first|refine Zd1 ?_|(refine Zaa ?_;rintro _ rfl))
        exact ZbT
      | true =>
        rw [if_neg (by rw [hin];decide)] at hf;rw [hin] at hI
        skip
        refine Zz ?_
        repeat(first|refine Zae ?_|refine Zbe ?_|refine Zah ?_|refine Zao ?_|refine Zd2 ?_)
        repeat(first|refine Zd1 ?_)
        refine Zz ?_
        repeat(first|refine Zd2 ?_)
        repeat(first|refine Zd1 ?_|(refine Zaa ?_;rintro _ rfl))
        exact Zdr
  have e1:h.dels.drop i=[]:=List.drop_eq_nil_of_le (by omega)
  rw [e1,Xst] at hf
  rw [hf,if_pos rfl] at he
  clear e1 hf
  by_cases c64:64 < h.lyrs.length
  · rw [if_pos c64] at he
    repeat(first|refine Zd1 ?_|refine ZR ?_)
    exact Zax
  rw [if_neg c64] at he
  have hA:=fun G (hg:CkH c s ((b11,⟨[I h.ins,I h.move,Xy h.dels,Xx h.lyrs],41,true⟩)::(b5,⟨XN h,43,true⟩)::(b4,⟨[I e0],3,true⟩)::(b3,⟨[.ptr c.ic 0],107,true⟩)::K) G)=>Xtx (σ:=Unit) (fun _ G=>CkH c s ((b11,⟨[I h.ins,I h.move,Xy h.dels,Xx h.lyrs],41,true⟩)::(b5,⟨XN h,43,true⟩)::(b4,⟨[I e0],3,true⟩)::(b3,⟨[.ptr c.ic 0],107,true⟩)::K) G) (fun i s'=>(Xtk s e0 h.lyrs i,s')) h.lyrs.length hh3 116 [.ptr b3 0,.ptr b4 0,.ptr b11 0] (fun i _ G hi hp=>Xse c s K b3 b4 b5 b11 e0 h hh3 G hp i hi) () G hg
  rw [XiE] at hA
  repeat(first|refine Zd1 ?_|refine ZR ?_|(refine Zds ?_;rintro _ G ⟨rfl,hq⟩)|refine ZaH ?_)
  exact XG rfl rfl ⟨by rw [← he];rfl,hq.cut [(b11,⟨[I h.ins,I h.move,Xy h.dels,Xx h.lyrs],41,true⟩),(b5,⟨XN h,43,true⟩),(b4,⟨[I e0],3,true⟩),(b3,⟨[.ptr c.ic 0],107,true⟩)]⟩
end Go.Proofs.YtlcphjcpoinolaaGreat
