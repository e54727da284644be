/- Part of the proof: the walk over the program and its laws: Nn. -/
import Derived.Test.YtlcphjcpoinolaaGreatP0
import Derived.Test.YtlcphjcpoinolaaGreatP37
set_option linter.unusedVariables false
namespace Go.Proofs.YtlcphjcpoinolaaGreat
open Go.RowKit Go.Th
set_option maxRecDepth 20000
theorem Xms (a b:ByteArray):Xh0 a b=true↔a=b:=by
  unfold Xh0
  rw [ByteArray.toList_eq,ByteArray.toList_eq,beq_iff_eq]
  constructor
  · intro h
    apply ByteArray.ext
    exact Array.ext' h
  · rintro rfl;rfl
def Xw2:Item→Nat
  | .mk _ _ _ t _ _ _=>t.size
def tsz:List Item→Nat
  | []=>0
  | x::l=>Xw2 x+tsz l
theorem Xmm:∀ l,tsz l≤401 * Xw l
  | []=>Nat.zero_le _
  | .mk k c i t h f r::l=>by
    have:=Xmm l
    rw [tsz,Xw2,Xw,XbG]
    have h2:t.size < 401 * (t.size / 401+1):=by omega
    omega
theorem XiG:∀ (a b:List Item),tsz (a++b)=tsz a+tsz b
  | [],b=>by simp [tsz]
  | x::a,b=>by rw [List.cons_append,tsz,tsz,XiG a b];omega
theorem XgL {d:TypeDesc} {size k off:Nat} {A C:List PV} {q:PV} (hA:A.length=off) (h:XgM d size C k=some q):XgM d size (A++C) (off+k)=some q:=by
  subst hA
  unfold XgM at h ⊢
  rw [List.drop_length_add_append]
  exact h
theorem Xmo:∀ (cs A C:List PV) (k:Nat),Xaz (A++C) (A.length+k) cs=A++Xaz C k cs
  | [],A,C,k=>rfl
  | c::cs,A,C,k=>by
    have e:(A++C).set (A.length+k) c=A++C.set k c:=by
      rw [List.set_append_right _ _ (by omega)]
      congr 2;omega
    rw [Xaz,Xaz,e,Nat.add_assoc,Xmo cs A (C.set k c) (k+1)]
theorem Xj2 (x:Item):XiM [] x=[x]:=rfl
theorem XfB (ys:List Item) (y x:Item):XiM (ys++[y]) x=if XnM y x=true then ys++[XnL y x] else ys++[y]++[x]:=by
  unfold XiM
  rw [List.getLast?_concat]
  dsimp only
  rw [List.dropLast_concat]
noncomputable def Xpt (out:List Item) (x:Item):Bool:=match out.getLast? with
  | none=>false
  | some y=>XnM y x
theorem Xrv (out:List Item) (x:Item):XiM out x=if Xpt out x=true then (match out.getLast? with | none=>[] | some y=>out.dropLast++[XnL y x]) else out++[x]:=by
  unfold XiM Xpt
  cases out.getLast? with
  | none=>rfl
  | some y=>rfl
set_option maxHeartbeats 64000000 in
theorem XiP (l:List Item) (hI:∀ x ∈ l,∀ k c i t h f r,x=.mk k c i t h f r→NmI f∧∀ y ∈ r,∀ h cs,y=.mk h cs→∀ z ∈ cs,∀ i hh f,z=.mk i hh f→NmI f):NmI l:=by
  intro hcost hfull
  have hll:=XaK l
  have hts:=Xmm l
  obtain ⟨q,hq⟩:∃ q,Xcj l=q:=⟨_,rfl⟩
  rw [hq]
  unfold Xcj at hq
  rw [XmA] at hq
  have hG:=Xd
  refine Xb Tryz.func32 rfl rfl rfl ?_
  repeat(first|refine Zes ?_)
  refine X1 3 46 11 hG rfl ?_
  intro o G hG
  refine Xg (S:=Nat × Nat × List Item) (fun s=>[(3,.sl s.2.1 0 s.2.2.length 11),(7,Xh l),(8,I l.length),(9,I s.1)])
    (fun s G=>s.1≤l.length∧s.2.2.length≤s.1∧tsz s.2.2+tsz (l.drop s.1)≤401 * 300∧XcX s.2.2 ((l.drop s.1).map Xj8)=q∧Has G [(s.2.1,⟨s.2.2.flatMap Xo,46,true⟩)]) (fun s=>l.length - s.1) (0,o,[])
    (.cons rfl (.cons rfl (.cons rfl (.cons rfl (.nil _))))) ⟨Nat.zero_le _,Nat.le_refl _,by simp only [List.drop_zero,tsz];omega,hq,hG⟩ ?_
  clear hG hq
  rintro ⟨i,o,out⟩ G ⟨hi,hol,hz,hf,hG⟩
  dsimp only at hi hol hz hf hG ⊢
  by_cases hil:i < l.length
  rotate_left
  · rw [List.drop_eq_nil_of_le (by omega),List.map_nil,XcX] at hf
    subst hf
    have hn:=XF X4 out
    repeat(first|refine Zes ?_)
    exact XI rfl rfl (Conv.own hG (k:=0) rfl hn) (XM out) rfl
  obtain ⟨x,hx⟩:∃ x,l[i]?=some x:=⟨_,List.getElem?_eq_getElem hil⟩
  have ho:=Xp X4 l i x hx
  have hxm:=List.mem_of_getElem? hx
  have hIx:=hI x hxm
  have hxc:=Xce hxm
  have hxf:=Xid hfull hxm
  rw [X2 hx,List.map_cons,XcX] at hf
  rw [X2 hx,tsz] at hz
  clear hI hfull
  obtain ⟨k,c,d,t,h,f,r⟩:=x
  obtain ⟨hf1,hf2⟩:=hIx _ _ _ _ _ _ _ rfl
  rw [XbG] at hxc
  rw [XpH] at hxf
  obtain ⟨n7,n1,nf,nr⟩:=hxf
  rw [XG] at ho
  rw [Xw2] at hz
  have hhd:=Xal h (HBd.of (by omega))
  have hnf:=hf1 (by omega) nf
  have hrl:=XbM r
  have hnr:Iso Tryz.prog 83 [XD r,.fn (.func 84) []] (fun p=>p=XD (r.map XhD)):=by
    refine Xkx 84 XhD r (by omega) fun y hy=>?_
    obtain ⟨h2,cs⟩:=y
    have hyc:=Xcd hy
    rw [Xeg] at hyc
    have hcl:=XbN cs
    refine Xli h2 cs (HBd.of (by omega)) (Xjg 146 XnA cs (by omega) fun z hz=>?_)
    obtain ⟨i3,h3,f3⟩:=z
    have hzc:=Xcf hz
    rw [XdR] at hzc
    exact Xka i3 h3 f3 (HBd.of (by omega)) (hf2 _ hy _ _ rfl _ hz _ _ _ rfl (by omega) (Xie (XfH nr hy).2 hz))
  have hdr:Iso Tryz.prog 82 [XD (r.map XhD),.fn (.func 85) []] (fun p=>p=XD (r.map XhD)):=by
    refine XlP _ (by rw [List.length_map];omega) fun h2 cs hm=>?_
    obtain ⟨y,hy,e⟩:=List.mem_map.1 hm
    obtain ⟨h3,cs3⟩:=y
    rw [XhD] at e
    injection e with _ e
    have:=(XfH nr hy).1
    rw [← e,XgI]
    simpa using this
  have hr7:k=7→(r.map XhD).length≠0:=fun e=>by
    have:=n7 e
    simpa using this
  rw [Xj8,Xj7] at hf
  have hnfe:XcX [] (XeE f)=Xcj f:=rfl
  rw [hnfe] at hf
  generalize r.map XhD=r' at hnr hdr hf hr7
  generalize Xcj f=f' at hnf hf
  clear hf1 hf2 n7 nf nr hnfe hIx hx hxm
  have th:∀ c ∈ [PV.agg (XL h)],Xk c:=TreeL.cons (Xk.agg (X6 _)) TreeL.nil
  have tf:∀ c ∈ [Xh f],Xk c:=TreeL.cons (XM _) TreeL.nil
  have tr1:∀ c ∈ [XD r,.fn (.func 84) []],Xk c:=TreeL.cons (Xca _) (TreeL.cons (Xk.fn Xs) TreeL.nil)
  have tr2:∀ c ∈ [XD r',.fn (.func 85) []],Xk c:=TreeL.cons (Xca _) (TreeL.cons (Xk.fn Xs) TreeL.nil)
  repeat(first|refine Zez ?_)
  refine Zj ?_
  repeat(first|refine Zez ?_|refine Zb3 ?_|(refine Zb4 ?_;rintro _ rfl)|(refine Xr rfl rfl rfl rfl rfl rfl (by decide) hnf tf ?_;rintro _ rfl)|(refine Xr rfl rfl rfl rfl rfl rfl (by decide) hnr tr1 ?_;rintro _ rfl)|(refine Xr rfl rfl rfl rfl rfl rfl (by decide) hdr tr2 ?_;rintro _ rfl)|refine Zv ?_|(refine Zz ?_;intro G hG)|(refine ZI ?_;intro id G hG))
  refine Xz (C:=⟨[I k,I c,I d,S t,Xf h.props,I h.ins,I h.move,Xm h.dels,Xl h.lyrs,Xh f',XD r'],46,true⟩) 5 hG rfl ?_
  clear hG hhd hnf hnr hdr th tf tr1 tr2
  intro G hG
  refine Zj ?_
  refine Zc ?_
  refine Xcx (S:=Unit) (fun _=>[(3,.sl o 0 out.length 11),(5,.ept [I k,I c,I d,S t,Xf h.props,I h.ins,I h.move,Xm h.dels,Xl h.lyrs,Xh f',XD r'] 0),(6,I out.length),(7,Xh l),(8,I l.length),(9,I i),(32,B false)]) (fun _ G=>Has G [(o,⟨out.flatMap Xo,46,true⟩)]) ?_ ?_
  · by_cases k7:k=7
    · have hr0:=hr7 k7
      repeat(first|refine Zes ?_)
      exact Za6
    · by_cases k1:k=1
      · have ht0:PV.v (.bool (Xh0 t ByteArray.empty))=B false:=by
          have:Xh0 t ByteArray.empty=false:=by
            cases hb:Xh0 t ByteArray.empty with
            | false=>rfl
            | true =>
              exfalso
              apply n1 k1
              rw [(Xms _ _).1 hb];rfl
          rw [this];rfl
        repeat(first|refine Zes ?_|refine Xn rfl rfl (by decide) (OpV.same (Xa9 rfl rfl rfl) ht0) ?_)
        exact Za6
      · repeat(first|refine Zes ?_)
        exact Za6
  clear hG
  rintro _ G hG
  have hl3:l.length≤300:=by omega
  clear n1 hr7 hxc hcost hll hts ho hrl
  have hpe:=Xrv out (.mk k c d t h f' r')
  obtain ⟨b,hb⟩:∃ b,Xpt out (.mk k c d t h f' r')=b:=⟨_,rfl⟩
  rw [hb] at hpe
  repeat(first|refine Zez ?_)
  refine Xcx (S:=Unit) (fun _=>[(3,.sl o 0 out.length 11),(5,.ept [I k,I c,I d,S t,Xf h.props,I h.ins,I h.move,Xm h.dels,Xl h.lyrs,Xh f',XD r'] 0),(6,I out.length),(7,Xh l),(8,I l.length),(9,I i),(52,B b)]) (fun _ G=>Has G [(o,⟨out.flatMap Xo,46,true⟩)]) ?_ ?_
  · unfold Xpt at hb
    by_cases k1:k=1
    rotate_left
    · have hb0:b=false:=by
        rw [← hb]
        cases out.getLast? with
        | none=>rfl
        | some y=>obtain ⟨ky,cy,iy,ty,hy,fy,ry⟩:=y;simp [XnM,k1]
      clear hb
      subst hb0
      refine ZD ?_
      repeat(first|refine Zeu ?_)
      exact Za6
    rcases List.eq_nil_or_concat out with e | ⟨ys,y,e⟩
    · subst e
      have hb:false=b:=hb
      subst hb
      refine ZD ?_
      repeat(first|refine Zeu ?_|refine Xfn (XP rfl rfl rfl rfl) rfl (by decide) rfl rfl rfl rfl (by decide) ?_)
      exact Za6
    rw [List.concat_eq_append] at e
    subst e
    rw [List.getLast?_concat] at hb
    dsimp only at hb
    obtain ⟨ky,cy,iy,ty,hy,fy,ry⟩:=y
    have hl0:=XF X4 ys
    rw [List.flatMap_append,List.flatMap_cons,List.flatMap_nil,List.append_nil,XG] at hG ⊢
    simp only [List.length_append,List.length_cons,List.length_nil,Nat.zero_add] at hol ⊢
    have hm1:PV.v (.int .i64 (((ys.length+1:Nat):Int) - 1))=I (ys.length:Nat):=by
      show PV.v (.int .i64 _)=PV.v (.int .i64 _)
      congr 2;omega
    have L0:XgM (.int .i64) 1 (ys.flatMap Xo++[I ky,I cy,I iy,S ty,Xf hy.props,I hy.ins,I hy.move,Xm hy.dels,Xl hy.lyrs,Xh fy,XD ry]) (ys.length * 11+0)=some (I ky):=XgL hl0 rfl
    have L4:=XgL (d:=.struct #[{ name:= "Props",type:=37,offset:=0,embedded:=false,tag:= "",pkgPath:= "",byteOffset:=0 },{ name:= "Marks",type:=41,offset:=1,embedded:=false,tag:= "",pkgPath:= "",byteOffset:=24 }]) (size:=5) (k:=4) (C:=[I ky,I cy,I iy,S ty,Xf hy.props,I hy.ins,I hy.move,Xm hy.dels,Xl hy.lyrs,Xh fy,XD ry]) (q:=.agg (XL hy)) hl0 rfl
    generalize ys.flatMap Xo++[I ky,I cy,I iy,S ty,Xf hy.props,I hy.ins,I hy.move,Xm hy.dels,Xl hy.lyrs,Xh fy,XD ry]=cells at hG L0 L4
    have hqi:Xck (.sl o 0 (ys.length+1) 11) 11 (ys.length:Int).toNat=some (.ptr o (ys.length * 11)):=by
      simp only [Xck,Int.toNat_natCast,Nat.zero_add]
    have hoo:(ys.length:Int) ≥ 0:=by omega
    have hE:=Xez hy h
    have tE:∀ c ∈ [PV.agg (XL hy),.agg (XL h)],Xk c:=TreeL.cons (Xk.agg (X6 _)) (TreeL.cons (Xk.agg (X6 _)) TreeL.nil)
    by_cases ky1:ky=1
    rotate_left
    · have hb0:b=false:=by
        rw [← hb];simp [XnM,ky1]
      clear hb
      subst hb0
      refine ZD ?_
      repeat(first|refine ZdO ?_|refine ZdP ?_|refine ZdQ ?_|refine Zeu ?_|refine ZaS ?_)
      exact Za6
    have hb2:eqv hy h=b:=by rw [← hb];simp [XnM,k1,ky1]
    rw [hb2] at hE
    clear hb hb2
    refine ZD ?_
    repeat(first|refine ZdO ?_|refine ZdP ?_|refine ZdQ ?_|refine Xfn (Xj rfl rfl (hG.get 0 _ _ rfl) (by exact L4)) rfl (by decide) rfl rfl rfl rfl (by decide) ?_|refine XA4 (fun _=>Iso.K rfl rfl rfl rfl hE tE) rfl (by decide) rfl rfl rfl rfl (by decide) ?_|refine Y_q rfl rfl rfl (by decide) (Xa2 rfl rfl rfl rfl) ?_|refine Zeu ?_|refine ZaS ?_)
    exact Za6
  clear hG
  rintro _ G hG
  cases b with
  | false =>
    rw [if_neg (by decide)] at hpe
    have hn:=XF X4 out
    have hcs:out.flatMap Xo++[I k,I c,I d,S t,Xf h.props,I h.ins,I h.move,Xm h.dels,Xl h.lyrs,Xh f',XD r']=(out++[Item.mk k c d t h f' r']).flatMap Xo:=by
      rw [List.flatMap_append,List.flatMap_cons,List.flatMap_nil,List.append_nil,XG]
    repeat(first|refine Zes ?_|refine ZJ ?_|(refine Xau 1 hG rfl rfl (by decide) rfl rfl rfl rfl rfl rfl hn rfl (hG.cellsOf (k:=0) rfl rfl) rfl (by omega) (by omega) ?_;intro o2 G hG)|(refine ZO ?_;intro id G hG))
    have hG:=XbU hG.tail hcs
    rw [hpe] at hf
    have hlo:out.length+1=(out++[Item.mk k c d t h f' r']).length:=by simp
    exact ⟨(i+1,o2,out++[Item.mk k c d t h f' r']),by dsimp only;omega,.cons (by dsimp only;rw [← hlo];rfl) (.cons rfl (.cons rfl (.cons rfl (.nil _)))),by dsimp only;omega,by dsimp only;omega,by dsimp only;rw [XiG,tsz,Xw2,tsz];omega,hf,hG⟩
  | true =>
    clear hpe
    rcases List.eq_nil_or_concat out with e | ⟨ys,y,e⟩
    · subst e;cases hb
    rw [List.concat_eq_append] at e
    subst e
    unfold Xpt at hb
    rw [List.getLast?_concat] at hb
    dsimp only at hb
    rw [XfB,if_pos hb] at hf
    obtain ⟨ky,cy,iy,ty,hy,fy,ry⟩:=y
    have hl0:=XF X4 ys
    rw [XnL] at hf
    have hcs:ys.flatMap Xo++[I ky,I cy,I iy,S (ty++t),Xf hy.props,I hy.ins,I hy.move,Xm hy.dels,Xl hy.lyrs,Xh fy,XD ry]=(ys++[Item.mk ky cy iy (ty++t) hy fy ry]).flatMap Xo:=by
      rw [List.flatMap_append,List.flatMap_cons,List.flatMap_nil,List.append_nil,XG]
    rw [List.flatMap_append,List.flatMap_cons,List.flatMap_nil,List.append_nil,XG] at hG
    simp only [List.length_append,List.length_cons,List.length_nil,Nat.zero_add] at hol ⊢
    simp only [XiG,tsz,Xw2] at hz
    have hm1:PV.v (.int .i64 (((ys.length+1:Nat):Int) - 1))=I (ys.length:Nat):=by
      show PV.v (.int .i64 _)=PV.v (.int .i64 _)
      congr 2;omega
    have L3:XgM .string 1 (ys.flatMap Xo++[I ky,I cy,I iy,S ty,Xf hy.props,I hy.ins,I hy.move,Xm hy.dels,Xl hy.lyrs,Xh fy,XD ry]) (ys.length * 11+3)=some (S ty):=XgL hl0 rfl
    have hset:Xaz (ys.flatMap Xo++[I ky,I cy,I iy,S ty,Xf hy.props,I hy.ins,I hy.move,Xm hy.dels,Xl hy.lyrs,Xh fy,XD ry]) (ys.length * 11+3) [S (ty++t)]=(ys++[Item.mk ky cy iy (ty++t) hy fy ry]).flatMap Xo:=by
      rw [← hcs,← hl0,Xmo];rfl
    have hble:Nat.ble (ys.length * 11+3+1) (ys.flatMap Xo++[I ky,I cy,I iy,S ty,Xf hy.props,I hy.ins,I hy.move,Xm hy.dels,Xl hy.lyrs,Xh fy,XD ry]).length=true:=by
      rw [List.length_append,hl0]
      rw [Nat.ble_eq]
      simp
    have hqi:Xck (.sl o 0 (ys.length+1) 11) 11 (ys.length:Int).toNat=some (.ptr o (ys.length * 11)):=by
      simp only [Xck,Int.toNat_natCast,Nat.zero_add]
    generalize ys.flatMap Xo++[I ky,I cy,I iy,S ty,Xf hy.props,I hy.ins,I hy.move,Xm hy.dels,Xl hy.lyrs,Xh fy,XD ry]=cells at hG L3 hset hble
    clear hcs
    have hlen:(ys++[Item.mk ky cy iy (ty++t) hy fy ry]).length=ys.length+1:=by simp
    have htz:tsz (ys++[Item.mk ky cy iy (ty++t) hy fy ry])+tsz (l.drop (i+1))≤401 * 300:=by
      simp only [XiG,tsz,Xw2,ByteArray.size_append];omega
    obtain ⟨H1,e1⟩:∃ X,X=G.set o (some ⟨(ys++[Item.mk ky cy iy (ty++t) hy fy ry]).flatMap Xo,46,true⟩):=⟨_,rfl⟩
    have hG1:=hG.set (k:=0) rfl ⟨(ys++[Item.mk ky cy iy (ty++t) hy fy ry]).flatMap Xo,46,true⟩
    rw [← e1] at hG1
    generalize ys++[Item.mk ky cy iy (ty++t) hy fy ry]=out' at *
    repeat(first|refine Zi ?_)
    refine Zaa ?_
    repeat(first|refine Y_v rfl rfl rfl (by decide) (fun _=>OpV.same (Xel rfl rfl rfl (by omega)) hm1) ?_|refine Y_v rfl rfl rfl (by decide) (fun _=>Xbp rfl rfl rfl rfl (by exact hqi) (by omega)) ?_|refine Y_r 0 (by decide +kernel) (by decide +kernel) rfl rfl rfl rfl (by decide) (Xj rfl rfl (hG.get 0 _ _ rfl) (by exact L3)) ?_|refine Y_v rfl rfl rfl (by decide) (fun _=>XsH rfl rfl rfl (by omega)) ?_|refine Y_s 0 (by decide +kernel) rfl rfl rfl rfl (XH rfl rfl rfl (hG.get 0 _ _ rfl) rfl rfl rfl (by exact hble) (by exact hset)) e1 ?_|refine Zex ?_)
    have hG:=hG1
    repeat(first|refine Zes ?_)
    exact ⟨(i+1,o,out'),by dsimp only;omega,.cons (by dsimp only;rw [hlen];rfl) (.cons rfl (.cons rfl (.cons rfl (.nil _)))),by dsimp only;omega,by dsimp only;omega,htz,hf,hG⟩
theorem XiQ:∀ (n:Nat) (l:List Item),SizeOf.sizeOf l≤n→NmI l:=by
  intro n
  induction n with
  | zero=>intro l hl;cases l <;> simp at hl <;> omega
  | succ n ih =>
    intro l hl
    refine XiP l fun x hx k c i t h f r e=>?_
    have hxl:=List.sizeOf_lt_of_mem hx
    subst e
    simp only [Item.mk.sizeOf_spec] at hxl
    refine ⟨ih f (by omega),?_⟩
    rintro y hy hh cs rfl z hz j hz2 g rfl
    have h1:=List.sizeOf_lt_of_mem hy
    have h2:=List.sizeOf_lt_of_mem hz
    simp only [Row.mk.sizeOf_spec] at h1
    simp only [Cell.mk.sizeOf_spec] at h2
    exact ih g (by omega)
theorem Xia (l:List Item):NmI l:=XiQ _ l (Nat.le_refl _)
end Go.Proofs.YtlcphjcpoinolaaGreat
