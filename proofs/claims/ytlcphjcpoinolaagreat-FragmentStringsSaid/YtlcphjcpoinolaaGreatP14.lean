/- Part of the proof: the walk over the program and its laws: Eg Sc. -/
import Derived.Test.YtlcphjcpoinolaaGreatP0
import Derived.Test.YtlcphjcpoinolaaGreatP13
import Derived.Test.YtlcphjcpoinolaaGreatP12
set_option linter.unusedVariables false
namespace Go.Proofs.YtlcphjcpoinolaaGreat
open Go.RowKit Go.Th
set_option maxRecDepth 20000
theorem Xmc (x y:List Prp):Iso Tryz.prog 133 [Xn x,Xn y] (fun p=>p=B (eqv x y)):=by
  have hG:=Xc
  refine Xb Tryz.func133 rfl rfl rfl ?_
  repeat(first|refine Zd1 ?_|(refine Xr rfl rfl rfl rfl rfl rfl (by decide) (XkM x y) (TreeL.cons (XT _) (TreeL.cons (XT _) TreeL.nil)) ?_;rintro _ rfl))
  exact ZE
set_option maxHeartbeats 8000000 in
theorem Xma (x y:Style):Iso Tryz.prog 132 [.agg (Xt x),.agg (Xt y)] (fun p=>p=B (eqv x y)):=by
  have hG:=Xc
  refine Xb Tryz.func132 rfl rfl rfl ?_
  repeat(first|refine Zd3 ?_|(refine ZI ?_;intro id G hG))
  generalize hb0:decide (x.id=y.id)=b0
  repeat(first|refine Zc4 ?_|refine XcH (fun hb=>by subst hb;exact Iso.K rfl rfl rfl rfl (Xmc _ _) (TreeL.cons (XT _) (TreeL.cons (XT _) TreeL.nil))) rfl rfl rfl rfl rfl (by decide) ?_|refine Zd4 ?_|(refine ZaZ ?_;intro bv hbv))
  repeat(first|refine Zd3 ?_)
  subst_vars
  refine ZaF ?_
  rw [Xqq];simp only [Xhx,Xeq];rfl
theorem Xa5 (x:Style):(Xt x).length=6:=rfl
theorem XlN (x:Lst):(XaE x).length=2:=rfl
theorem XeX (x:Style):∀ c ∈ Xt x,Xi c:=Xa (Xe _) (Xa (Xe _) (Xa (XX _) (Xa (Xe _) (Xa (Xe _) (Xa (XT _) Xp)))))
theorem Xj3 (x:Lst):∀ c ∈ XaE x,Xi c:=Xa (Xe _) (Xa (XbK _) Xp)
set_option maxHeartbeats 4000000 in
theorem Xjq (F K:List Style) (hE:∀ (i:Nat) (x y:Style),F[i]?=some x→K[i]?=some y→Iso Tryz.prog 132 [.agg (Xt x),.agg (Xt y)] (fun p=>p=B (eqv x y))) :
    Iso Tryz.prog 131 [XaK Xt 6 F,XaK Xt 6 K,.fn (.func 132) []] (fun p=>p=B (eqv F K)):=by
  refine Xbk 0 rfl Tryz.func131 (by kernel_rfl) (by kernel_rfl) fun hF=>?_
  refine Xbk 1 rfl Tryz.func131 (by kernel_rfl) (by kernel_rfl) fun hG0=>?_
  have hG:=Xc
  refine Xb Tryz.func131 rfl rfl rfl ?_
  by_cases hl:F.length=K.length
  · repeat(first|refine Zd1 ?_)
    refine Xg (S:=Nat) (fun i=>[(1,XaK Xt 6 K),(2,.fn (.func 132) []),(15,XaK Xt 6 F),(16,I F.length),(17,I i)]) (fun i _=>i≤F.length∧eqv F K=eqv (F.drop i) (K.drop i)) (fun i=>F.length - i) 0
      (.cons rfl (.cons rfl (.cons rfl (.cons rfl (.cons rfl (.nil _)))))) ⟨by omega,rfl⟩ ?_
    rintro i H ⟨hi,he⟩
    have hG:=Has.nil H
    by_cases hil:i < F.length
    · obtain ⟨f,hf⟩:∃ x,F[i]?=some x:=⟨_,List.getElem?_eq_getElem hil⟩
      obtain ⟨g,hg⟩:∃ x,K[i]?=some x:=⟨_,List.getElem?_eq_getElem (by omega)⟩
      rw [XbB hf hg] at he
      have hE:=hE i f g hf hg
      generalize hq:eqv f g=q at he hE
      repeat(first|refine Zd1 ?_|refine Xj rfl rfl (by decide) (Xf (cells:=F.flatMap Xt) rfl rfl rfl (by omega) (by exact Xu Xa5 F i f hf)) ?_|refine Xj rfl rfl (by decide) (Xf (cells:=K.flatMap Xt) rfl rfl rfl (by omega) (by exact Xu Xa5 K i g hg)) ?_|(refine Xr rfl rfl rfl rfl rfl rfl (by decide) hE (TreeL.cons (Xi.agg (XeX f)) (TreeL.cons (Xi.agg (XeX g)) TreeL.nil)) ?_;rintro _ rfl)|refine Z3 ?_|(refine ZA ?_;intro G hG)|(refine ZD ?_;intro id G hG))
      cases q with
      | true =>
        rw [Bool.true_and] at he
        repeat(first|refine Zd1 ?_)
        exact Zbg
      | false =>
        rw [Bool.false_and] at he
        repeat(first|refine Zd1 ?_)
        rw [he]
        exact ZE
    · have e:i=F.length:=by omega
      rw [Xcs e hl] at he
      subst e
      repeat(first|refine Zd1 ?_)
      rw [he]
      exact ZE
  · rw [Xcr hl]
    repeat(first|refine Zd1 ?_)
    exact ZE
theorem XkL (x y:List Style):Iso Tryz.prog 61 [XL x,XL y] (fun p=>p=B (eqv x y)):=by
  have hG:=Xc
  refine Xb Tryz.func61 rfl rfl rfl ?_
  repeat(first|refine Zd1 ?_|(refine Xr rfl rfl rfl rfl rfl rfl (by decide) (Xjq x y (fun _ a b _ _=>Xma a b)) (TreeL.cons (XI _) (TreeL.cons (XI _) (TreeL.cons (Xi.fn Xp) TreeL.nil))) ?_;rintro _ rfl))
  exact ZE
set_option maxHeartbeats 8000000 in
theorem Xqw (x y:Lst):Iso Tryz.prog 56 [.agg (XaE x),.agg (XaE y)] (fun p=>p=B (eqv x y)):=by
  have hG:=Xc
  refine Xb Tryz.func56 rfl rfl rfl ?_
  repeat(first|refine Zd3 ?_|(refine ZI ?_;intro id G hG))
  generalize hb0:decide (x.id=y.id)=b0
  repeat(first|refine XcH (fun hb=>by subst hb;exact Iso.K rfl rfl rfl rfl (Xme _ _) (TreeL.cons (XbK _) (TreeL.cons (XbK _) TreeL.nil))) rfl rfl rfl rfl rfl (by decide) ?_|refine Zd4 ?_|(refine ZaZ ?_;intro bv hbv))
  repeat(first|refine Zd3 ?_)
  subst_vars
  refine ZaF ?_
  rw [Xwy];simp only [Xhx];rfl
set_option maxHeartbeats 4000000 in
theorem Xmd (F K:List Lst) (hE:∀ (i:Nat) (x y:Lst),F[i]?=some x→K[i]?=some y→Iso Tryz.prog 56 [.agg (XaE x),.agg (XaE y)] (fun p=>p=B (eqv x y))) :
    Iso Tryz.prog 62 [XaK XaE 2 F,XaK XaE 2 K,.fn (.func 56) []] (fun p=>p=B (eqv F K)):=by
  refine Xbk 0 rfl Tryz.func62 (by kernel_rfl) (by kernel_rfl) fun hF=>?_
  refine Xbk 1 rfl Tryz.func62 (by kernel_rfl) (by kernel_rfl) fun hG0=>?_
  have hG:=Xc
  refine Xb Tryz.func62 rfl rfl rfl ?_
  by_cases hl:F.length=K.length
  · repeat(first|refine Zd1 ?_)
    refine Xg (S:=Nat) (fun i=>[(1,XaK XaE 2 K),(2,.fn (.func 56) []),(15,XaK XaE 2 F),(16,I F.length),(17,I i)]) (fun i _=>i≤F.length∧eqv F K=eqv (F.drop i) (K.drop i)) (fun i=>F.length - i) 0
      (.cons rfl (.cons rfl (.cons rfl (.cons rfl (.cons rfl (.nil _)))))) ⟨by omega,rfl⟩ ?_
    rintro i H ⟨hi,he⟩
    have hG:=Has.nil H
    by_cases hil:i < F.length
    · obtain ⟨f,hf⟩:∃ x,F[i]?=some x:=⟨_,List.getElem?_eq_getElem hil⟩
      obtain ⟨g,hg⟩:∃ x,K[i]?=some x:=⟨_,List.getElem?_eq_getElem (by omega)⟩
      rw [XbB hf hg] at he
      have hE:=hE i f g hf hg
      generalize hq:eqv f g=q at he hE
      repeat(first|refine Zd1 ?_|refine Xj rfl rfl (by decide) (Xf (cells:=F.flatMap XaE) rfl rfl rfl (by omega) (by exact Xu XlN F i f hf)) ?_|refine Xj rfl rfl (by decide) (Xf (cells:=K.flatMap XaE) rfl rfl rfl (by omega) (by exact Xu XlN K i g hg)) ?_|(refine Xr rfl rfl rfl rfl rfl rfl (by decide) hE (TreeL.cons (Xi.agg (Xj3 f)) (TreeL.cons (Xi.agg (Xj3 g)) TreeL.nil)) ?_;rintro _ rfl)|refine Z3 ?_|(refine ZA ?_;intro G hG)|(refine ZD ?_;intro id G hG))
      cases q with
      | true =>
        rw [Bool.true_and] at he
        repeat(first|refine Zd1 ?_)
        exact Zbg
      | false =>
        rw [Bool.false_and] at he
        repeat(first|refine Zd1 ?_)
        rw [he]
        exact ZE
    · have e:i=F.length:=by omega
      rw [Xcs e hl] at he
      subst e
      repeat(first|refine Zd1 ?_)
      rw [he]
      exact ZE
  · rw [Xcr hl]
    repeat(first|refine Zd1 ?_)
    exact ZE
set_option maxHeartbeats 4000000 in
theorem XkN (F K:List Item) (hE:∀ (i:Nat) (x y:Item),F[i]?=some x→K[i]?=some y→Iso Tryz.prog 127 [.agg (Xl x),.agg (Xl y)] (fun p=>p=B (eqv x y))) :
    Iso Tryz.prog 126 [XaK Xl 11 F,XaK Xl 11 K,.fn (.func 127) []] (fun p=>p=B (eqv F K)):=by
  refine Xbk 0 rfl Tryz.func126 (by kernel_rfl) (by kernel_rfl) fun hF=>?_
  refine Xbk 1 rfl Tryz.func126 (by kernel_rfl) (by kernel_rfl) fun hG0=>?_
  have hG:=Xc
  refine Xb Tryz.func126 rfl rfl rfl ?_
  by_cases hl:F.length=K.length
  · repeat(first|refine Zd1 ?_)
    refine Xg (S:=Nat) (fun i=>[(1,XaK Xl 11 K),(2,.fn (.func 127) []),(15,XaK Xl 11 F),(16,I F.length),(17,I i)]) (fun i _=>i≤F.length∧eqv F K=eqv (F.drop i) (K.drop i)) (fun i=>F.length - i) 0
      (.cons rfl (.cons rfl (.cons rfl (.cons rfl (.cons rfl (.nil _)))))) ⟨by omega,rfl⟩ ?_
    rintro i H ⟨hi,he⟩
    have hG:=Has.nil H
    by_cases hil:i < F.length
    · obtain ⟨f,hf⟩:∃ x,F[i]?=some x:=⟨_,List.getElem?_eq_getElem hil⟩
      obtain ⟨g,hg⟩:∃ x,K[i]?=some x:=⟨_,List.getElem?_eq_getElem (by omega)⟩
      rw [XbB hf hg] at he
      have hE:=hE i f g hf hg
      have tf:∀ c ∈ Xl f,Xi c:=Xbq f
      have tg:∀ c ∈ Xl g,Xi c:=Xbq g
      generalize hq:eqv f g=q at he hE
      obtain ⟨f0,f1,f2,f3,f4,f5,f6⟩:=f
      obtain ⟨g0,g1,g2,g3,g4,g5,g6⟩:=g
      rw [XK] at tf tg hE
      rw [XK] at hE
      repeat(first|refine Zd1 ?_|refine Xj rfl rfl (by decide) (Xf (cells:=F.flatMap Xl) rfl rfl rfl (by omega) (by exact Xi8 hf)) ?_|refine Xj rfl rfl (by decide) (Xf (cells:=K.flatMap Xl) rfl rfl rfl (by omega) (by exact Xi8 hg)) ?_|(refine Zcf ?_;rintro _ rfl)|refine Z3 ?_|(refine ZA ?_;intro G hG)|(refine ZD ?_;intro id G hG))
      cases q with
      | true =>
        rw [Bool.true_and] at he
        repeat(first|refine Zd1 ?_)
        exact Zbg
      | false =>
        rw [Bool.false_and] at he
        repeat(first|refine Zd1 ?_)
        rw [he]
        exact ZE
    · have e:i=F.length:=by omega
      rw [Xcs e hl] at he
      subst e
      repeat(first|refine Zd1 ?_)
      rw [he]
      exact ZE
  · rw [Xcr hl]
    repeat(first|refine Zd1 ?_)
    exact ZE
set_option maxHeartbeats 4000000 in
theorem Xmb (F K:List Row) (hE:∀ (i:Nat) (x y:Row),F[i]?=some x→K[i]?=some y→Iso Tryz.prog 187 [.agg (XS x),.agg (XS y)] (fun p=>p=B (eqv x y))) :
    Iso Tryz.prog 186 [XaK XS 6 F,XaK XS 6 K,.fn (.func 187) []] (fun p=>p=B (eqv F K)):=by
  refine Xbk 0 rfl Tryz.func186 (by kernel_rfl) (by kernel_rfl) fun hF=>?_
  refine Xbk 1 rfl Tryz.func186 (by kernel_rfl) (by kernel_rfl) fun hG0=>?_
  have hG:=Xc
  refine Xb Tryz.func186 rfl rfl rfl ?_
  by_cases hl:F.length=K.length
  · repeat(first|refine Zd1 ?_)
    refine Xg (S:=Nat) (fun i=>[(1,XaK XS 6 K),(2,.fn (.func 187) []),(15,XaK XS 6 F),(16,I F.length),(17,I i)]) (fun i _=>i≤F.length∧eqv F K=eqv (F.drop i) (K.drop i)) (fun i=>F.length - i) 0
      (.cons rfl (.cons rfl (.cons rfl (.cons rfl (.cons rfl (.nil _)))))) ⟨by omega,rfl⟩ ?_
    rintro i H ⟨hi,he⟩
    have hG:=Has.nil H
    by_cases hil:i < F.length
    · obtain ⟨f,hf⟩:∃ x,F[i]?=some x:=⟨_,List.getElem?_eq_getElem hil⟩
      obtain ⟨g,hg⟩:∃ x,K[i]?=some x:=⟨_,List.getElem?_eq_getElem (by omega)⟩
      rw [XbB hf hg] at he
      have hE:=hE i f g hf hg
      have tf:∀ c ∈ XS f,Xi c:=Xbw f
      have tg:∀ c ∈ XS g,Xi c:=Xbw g
      generalize hq:eqv f g=q at he hE
      obtain ⟨f0,f1⟩:=f
      obtain ⟨g0,g1⟩:=g
      rw [X2] at tf tg hE
      rw [X2] at hE
      repeat(first|refine Zd1 ?_|refine Xj rfl rfl (by decide) (Xf (cells:=F.flatMap XS) rfl rfl rfl (by omega) (by exact Xpj hf)) ?_|refine Xj rfl rfl (by decide) (Xf (cells:=K.flatMap XS) rfl rfl rfl (by omega) (by exact Xpj hg)) ?_|(refine Zcf ?_;rintro _ rfl)|refine Z3 ?_|(refine ZA ?_;intro G hG)|(refine ZD ?_;intro id G hG))
      cases q with
      | true =>
        rw [Bool.true_and] at he
        repeat(first|refine Zd1 ?_)
        exact Zbg
      | false =>
        rw [Bool.false_and] at he
        repeat(first|refine Zd1 ?_)
        rw [he]
        exact ZE
    · have e:i=F.length:=by omega
      rw [Xcs e hl] at he
      subst e
      repeat(first|refine Zd1 ?_)
      rw [he]
      exact ZE
  · rw [Xcr hl]
    repeat(first|refine Zd1 ?_)
    exact ZE
set_option maxHeartbeats 4000000 in
theorem XkP (F K:List Cell) (hE:∀ (i:Nat) (x y:Cell),F[i]?=some x→K[i]?=some y→Iso Tryz.prog 208 [.agg (XB x),.agg (XB y)] (fun p=>p=B (eqv x y))) :
    Iso Tryz.prog 207 [XaK XB 7 F,XaK XB 7 K,.fn (.func 208) []] (fun p=>p=B (eqv F K)):=by
  refine Xbk 0 rfl Tryz.func207 (by kernel_rfl) (by kernel_rfl) fun hF=>?_
  refine Xbk 1 rfl Tryz.func207 (by kernel_rfl) (by kernel_rfl) fun hG0=>?_
  have hG:=Xc
  refine Xb Tryz.func207 rfl rfl rfl ?_
  by_cases hl:F.length=K.length
  · repeat(first|refine Zd1 ?_)
    refine Xg (S:=Nat) (fun i=>[(1,XaK XB 7 K),(2,.fn (.func 208) []),(15,XaK XB 7 F),(16,I F.length),(17,I i)]) (fun i _=>i≤F.length∧eqv F K=eqv (F.drop i) (K.drop i)) (fun i=>F.length - i) 0
      (.cons rfl (.cons rfl (.cons rfl (.cons rfl (.cons rfl (.nil _)))))) ⟨by omega,rfl⟩ ?_
    rintro i H ⟨hi,he⟩
    have hG:=Has.nil H
    by_cases hil:i < F.length
    · obtain ⟨f,hf⟩:∃ x,F[i]?=some x:=⟨_,List.getElem?_eq_getElem hil⟩
      obtain ⟨g,hg⟩:∃ x,K[i]?=some x:=⟨_,List.getElem?_eq_getElem (by omega)⟩
      rw [XbB hf hg] at he
      have hE:=hE i f g hf hg
      have tf:∀ c ∈ XB f,Xi c:=Xbr f
      have tg:∀ c ∈ XB g,Xi c:=Xbr g
      generalize hq:eqv f g=q at he hE
      obtain ⟨f0,f1,f2⟩:=f
      obtain ⟨g0,g1,g2⟩:=g
      rw [XZ] at tf tg hE
      rw [XZ] at hE
      repeat(first|refine Zd1 ?_|refine Xj rfl rfl (by decide) (Xf (cells:=F.flatMap XB) rfl rfl rfl (by omega) (by exact Xmv hf)) ?_|refine Xj rfl rfl (by decide) (Xf (cells:=K.flatMap XB) rfl rfl rfl (by omega) (by exact Xmv hg)) ?_|(refine Zcf ?_;rintro _ rfl)|refine Z3 ?_|(refine ZA ?_;intro G hG)|(refine ZD ?_;intro id G hG))
      cases q with
      | true =>
        rw [Bool.true_and] at he
        repeat(first|refine Zd1 ?_)
        exact Zbg
      | false =>
        rw [Bool.false_and] at he
        repeat(first|refine Zd1 ?_)
        rw [he]
        exact ZE
    · have e:i=F.length:=by omega
      rw [Xcs e hl] at he
      subst e
      repeat(first|refine Zd1 ?_)
      rw [he]
      exact ZE
  · rw [Xcr hl]
    repeat(first|refine Zd1 ?_)
    exact ZE
abbrev EqI (l:List Item):Prop:=∀ m,Iso Tryz.prog 58 [Xk l,Xk m] (fun p=>p=B (eqv l m))
set_option maxHeartbeats 8000000 in
theorem Xox (x y:Cell) (hI:∀ l,SizeOf.sizeOf l < SizeOf.sizeOf x→EqI l):Iso Tryz.prog 208 [.agg (XB x),.agg (XB y)] (fun p=>p=B (eqv x y)):=by
  have hG:=Xc
  obtain ⟨i,h,f⟩:=x
  obtain ⟨i',h',f'⟩:=y
  have hF:=hI f (by simp;omega)
  rw [XZ,XZ]
  refine Xb Tryz.func208 rfl rfl rfl ?_
  repeat(first|refine Zd3 ?_|(refine ZI ?_;intro id G hG))
  generalize hb0:decide (i=i')=b0
  repeat(first|refine Zc5 ?_|refine Zc6 ?_|refine Zd4 ?_|(refine ZaZ ?_;intro bv hbv))
  repeat(first|refine Zd3 ?_)
  subst_vars
  refine ZaF ?_
  rw [Xsl];simp only [Xhx];rfl
set_option maxHeartbeats 8000000 in
theorem Xqt (x y:Row) (hI:∀ l,SizeOf.sizeOf l < SizeOf.sizeOf x→EqI l):Iso Tryz.prog 187 [.agg (XS x),.agg (XS y)] (fun p=>p=B (eqv x y)):=by
  have hG:=Xc
  obtain ⟨h,c⟩:=x
  obtain ⟨h',c'⟩:=y
  have hC:=XkP c c' (fun i x y hx hy=>Xox x y fun l hl=>hI l (by have:=List.sizeOf_lt_of_mem (List.mem_of_getElem? hx);simp;omega))
  rw [X2,X2]
  refine Xb Tryz.func187 rfl rfl rfl ?_
  repeat(first|refine Zd3 ?_|(refine Xr rfl rfl rfl rfl rfl rfl (by decide) (XeG h h') (TreeL.cons (Xi.agg (Xah _)) (TreeL.cons (Xi.agg (Xah _)) TreeL.nil)) ?_;rintro _ rfl)|(refine ZI ?_;intro id G hG))
  generalize hb0:eqv h h'=b0
  repeat(first|refine XcH (fun hb=>by subst hb;exact Iso.K rfl rfl rfl rfl hC (TreeL.cons (XeZ _) (TreeL.cons (XeZ _) (TreeL.cons (Xi.fn Xp) TreeL.nil)))) rfl rfl rfl rfl rfl (by decide) ?_|refine Zd4 ?_|(refine ZaZ ?_;intro bv hbv))
  repeat(first|refine Zd3 ?_)
  subst_vars
  refine ZaF ?_
  rw [Xwu];rfl
set_option maxHeartbeats 8000000 in
theorem Xow (x y:Item) (hI:∀ l,SizeOf.sizeOf l < SizeOf.sizeOf x→EqI l):Iso Tryz.prog 127 [.agg (Xl x),.agg (Xl y)] (fun p=>p=B (eqv x y)):=by
  have hG:=Xc
  obtain ⟨k,c,i,t,h,f,r⟩:=x
  obtain ⟨k',c',i',t',h',f',r'⟩:=y
  have hF:=hI f (by simp;omega)
  have hR:=Xmb r r' (fun i x y hx hy=>Xqt x y fun l hl=>hI l (by have:=List.sizeOf_lt_of_mem (List.mem_of_getElem? hx);simp;omega))
  rw [XK,XK]
  refine Xb Tryz.func127 rfl rfl rfl ?_
  repeat(first|refine Zd3 ?_|(refine ZI ?_;intro id G hG))
  generalize hb0:decide (k=k')=b0
  repeat(first|refine Zc4 ?_|refine Zc5 ?_|refine Zc6 ?_|refine XcH (fun hb=>by subst hb;exact Iso.K rfl rfl rfl rfl hR (TreeL.cons (Xb9 _) (TreeL.cons (Xb9 _) (TreeL.cons (Xi.fn Xp) TreeL.nil)))) rfl rfl rfl rfl rfl (by decide) ?_|refine Zd4 ?_|(refine ZaZ ?_;intro bv hbv))
  repeat(first|refine Zd3 ?_)
  subst_vars
  refine ZaF ?_
  rw [Xsj];simp only [Xhx,Xeq];rfl
theorem Xmg:∀ (n:Nat) (l:List Item),SizeOf.sizeOf l≤n→EqI l:=by
  intro n
  induction n using Nat.strongRecOn with
  | _ n ih =>
    intro l hl m
    have h24:=XkN l m (fun i x y hx hy=>Xow x y fun l' hl'=>by
      have:=List.sizeOf_lt_of_mem (List.mem_of_getElem? hx)
      exact ih (SizeOf.sizeOf l') (by omega) l' (Nat.le_refl _))
    have hG:=Xc
    refine Xb Tryz.func58 rfl rfl rfl ?_
    repeat(first|refine Zd1 ?_|(refine Xr rfl rfl rfl rfl rfl rfl (by decide) h24 (TreeL.cons (XF _) (TreeL.cons (XF _) (TreeL.cons (Xi.fn Xp) TreeL.nil))) ?_;rintro _ rfl))
    exact ZE
theorem Xmf (l m:List Item):Iso Tryz.prog 58 [Xk l,Xk m] (fun p=>p=B (eqv l m)):=Xmg _ l (Nat.le_refl _) m
end Go.Proofs.YtlcphjcpoinolaaGreat
namespace Go.Proofs.YtlcphjcpoinolaaGreat
open Go.RowKit Go.Th
set_option maxRecDepth 20000
set_option maxHeartbeats 16000000 in
theorem XjF (l:List Rev) (hl:l.length≤1000000) (e:Nat→Int) (h:∀ i,i < min l.length 256→Iso Tryz.prog 109 [I i,.ept [XdA l] 0] (fun p=>p=I (e i))) :
    Iso Tryz.prog 47 [XdA l] (fun p=>p=I (XaA [Xbv (decide ((256:Int) < l.length)) 9,XmA e (min l.length 256)])):=by
  have hG:=Xc
  have hW:=Xbi (decide ((256:Int) < l.length)) 9
  have tW:∀ c ∈ [B (decide ((256:Int) < l.length)),I 9],Xi c:=TreeL.cons (XcJ _) (TreeL.cons (Xe _) TreeL.nil)
  have hcap:∀ c ∈ [PV.ept [XdA l] 0],Xi c:=TreeL.cons (Xi.ept (TreeL.cons (Xa9 _) TreeL.nil)) TreeL.nil
  have hA:=XjL (min l.length 256) 109 [.ept [XdA l] 0] e (by omega) hcap h
  have tA:∀ c ∈ [I ((min l.length 256:Nat):Int),.fn (.func 109) [.ept [XdA l] 0]],Xi c:=TreeL.cons (Xe _) (TreeL.cons (Xi.fn hcap) TreeL.nil)
  have hmin:I (min ((l.length:Nat):Int) 256)=I ((min l.length 256:Nat):Int):=by congr 3;omega
  generalize XmA e (min l.length 256)=y at hA ⊢
  generalize Xbv (decide ((256:Int) < l.length)) 9=x at hW ⊢
  have hI:=Xbn [x,y] (by simp)
  have tI:∀ c ∈ [Xc0 [x,y]],Xi c:=TreeL.cons (XW _) TreeL.nil
  refine Xb Tryz.func47 rfl rfl rfl ?_
  refine Zc ?_
  refine Zb ?_
  repeat(first|refine Zd ?_|(refine ZI ?_;intro id G hG))
  refine Za ?_
  refine ZaE ?_
  clear hG
  intro G hG
  obtain ⟨H1,e3⟩:∃ X,X=G++[some (Blk.mk [I x,I y] 29 true)]:=⟨_,rfl⟩
  have hG1:=hG.new (Blk.mk [I x,I y] 29 true)
  rw [← e3] at hG1
  repeat refine X4 ?_
  refine Z7 ?_
  repeat(first|refine Zbw ?_|refine ZbY ?_|refine ZbZ ?_|refine Za3 ?_|refine Zb0 ?_|refine ZaT ?_|refine Zaw ?_|refine Zd6 ?_)
  repeat(first|refine Zf ?_)
  exact ZE
set_option maxHeartbeats 16000000 in
theorem Xh0 (l:List Lst) (hl:l.length≤1000000) (e:Nat→Int) (h:∀ i,i < min l.length 64→Iso Tryz.prog 168 [I i,.ept [Xdk l] 0] (fun p=>p=I (e i))) :
    Iso Tryz.prog 105 [Xdk l] (fun p=>p=I (XaA [Xbv (decide ((64:Int) < l.length)) 9,XmA e (min l.length 64)])):=by
  have hG:=Xc
  have hW:=Xbi (decide ((64:Int) < l.length)) 9
  have tW:∀ c ∈ [B (decide ((64:Int) < l.length)),I 9],Xi c:=TreeL.cons (XcJ _) (TreeL.cons (Xe _) TreeL.nil)
  have hcap:∀ c ∈ [PV.ept [Xdk l] 0],Xi c:=TreeL.cons (Xi.ept (TreeL.cons (XaL _) TreeL.nil)) TreeL.nil
  have hA:=XjL (min l.length 64) 168 [.ept [Xdk l] 0] e (by omega) hcap h
  have tA:∀ c ∈ [I ((min l.length 64:Nat):Int),.fn (.func 168) [.ept [Xdk l] 0]],Xi c:=TreeL.cons (Xe _) (TreeL.cons (Xi.fn hcap) TreeL.nil)
  have hmin:I (min ((l.length:Nat):Int) 64)=I ((min l.length 64:Nat):Int):=by congr 3;omega
  generalize XmA e (min l.length 64)=y at hA ⊢
  generalize Xbv (decide ((64:Int) < l.length)) 9=x at hW ⊢
  have hI:=Xbn [x,y] (by simp)
  have tI:∀ c ∈ [Xc0 [x,y]],Xi c:=TreeL.cons (XW _) TreeL.nil
  refine Xb Tryz.func105 rfl rfl rfl ?_
  refine Zc ?_
  refine Zb ?_
  repeat(first|refine Zd ?_|(refine ZI ?_;intro id G hG))
  refine Za ?_
  refine ZaE ?_
  clear hG
  intro G hG
  obtain ⟨H1,e3⟩:∃ X,X=G++[some (Blk.mk [I x,I y] 29 true)]:=⟨_,rfl⟩
  have hG1:=hG.new (Blk.mk [I x,I y] 29 true)
  rw [← e3] at hG1
  repeat refine X4 ?_
  refine Z7 ?_
  repeat(first|refine Zbw ?_|refine ZbY ?_|refine ZbZ ?_|refine Za3 ?_|refine Zb0 ?_|refine ZaT ?_|refine Zaw ?_|refine Zd6 ?_)
  repeat(first|refine Zf ?_)
  exact ZE
set_option maxHeartbeats 16000000 in
theorem Xf8 (l:List Comment) (hl:l.length≤1000000) (e:Nat→Int) (h:∀ i,i < min l.length 1024→Iso Tryz.prog 171 [I i,.ept [X9 l] 0] (fun p=>p=I (e i))) :
    Iso Tryz.prog 106 [X9 l] (fun p=>p=I (XaA [Xbv (decide ((1024:Int) < l.length)) 9,XmA e (min l.length 1024)])):=by
  have hG:=Xc
  have hW:=Xbi (decide ((1024:Int) < l.length)) 9
  have tW:∀ c ∈ [B (decide ((1024:Int) < l.length)),I 9],Xi c:=TreeL.cons (XcJ _) (TreeL.cons (Xe _) TreeL.nil)
  have hcap:∀ c ∈ [PV.ept [X9 l] 0],Xi c:=TreeL.cons (Xi.ept (TreeL.cons (XaM _) TreeL.nil)) TreeL.nil
  have hA:=XjL (min l.length 1024) 171 [.ept [X9 l] 0] e (by omega) hcap h
  have tA:∀ c ∈ [I ((min l.length 1024:Nat):Int),.fn (.func 171) [.ept [X9 l] 0]],Xi c:=TreeL.cons (Xe _) (TreeL.cons (Xi.fn hcap) TreeL.nil)
  have hmin:I (min ((l.length:Nat):Int) 1024)=I ((min l.length 1024:Nat):Int):=by congr 3;omega
  generalize XmA e (min l.length 1024)=y at hA ⊢
  generalize Xbv (decide ((1024:Int) < l.length)) 9=x at hW ⊢
  have hI:=Xbn [x,y] (by simp)
  have tI:∀ c ∈ [Xc0 [x,y]],Xi c:=TreeL.cons (XW _) TreeL.nil
  refine Xb Tryz.func106 rfl rfl rfl ?_
  refine Zc ?_
  refine Zb ?_
  repeat(first|refine Zd ?_|(refine ZI ?_;intro id G hG))
  refine Za ?_
  refine ZaE ?_
  clear hG
  intro G hG
  obtain ⟨H1,e3⟩:∃ X,X=G++[some (Blk.mk [I x,I y] 29 true)]:=⟨_,rfl⟩
  have hG1:=hG.new (Blk.mk [I x,I y] 29 true)
  rw [← e3] at hG1
  repeat refine X4 ?_
  refine Z7 ?_
  repeat(first|refine Zbw ?_|refine ZbY ?_|refine ZbZ ?_|refine Za3 ?_|refine Zb0 ?_|refine ZaT ?_|refine Zaw ?_|refine Zd6 ?_)
  repeat(first|refine Zf ?_)
  exact ZE
set_option maxHeartbeats 16000000 in
theorem XjE (l:List Var) (hl:l.length≤1000000) (e:Nat→Int) (h:∀ i,i < min l.length 128→Iso Tryz.prog 176 [I i,.ept [Xds l] 0] (fun p=>p=I (e i))) :
    Iso Tryz.prog 107 [Xds l] (fun p=>p=I (XaA [Xbv (decide ((128:Int) < l.length)) 9,XmA e (min l.length 128)])):=by
  have hG:=Xc
  have hW:=Xbi (decide ((128:Int) < l.length)) 9
  have tW:∀ c ∈ [B (decide ((128:Int) < l.length)),I 9],Xi c:=TreeL.cons (XcJ _) (TreeL.cons (Xe _) TreeL.nil)
  have hcap:∀ c ∈ [PV.ept [Xds l] 0],Xi c:=TreeL.cons (Xi.ept (TreeL.cons (Xb8 _) TreeL.nil)) TreeL.nil
  have hA:=XjL (min l.length 128) 176 [.ept [Xds l] 0] e (by omega) hcap h
  have tA:∀ c ∈ [I ((min l.length 128:Nat):Int),.fn (.func 176) [.ept [Xds l] 0]],Xi c:=TreeL.cons (Xe _) (TreeL.cons (Xi.fn hcap) TreeL.nil)
  have hmin:I (min ((l.length:Nat):Int) 128)=I ((min l.length 128:Nat):Int):=by congr 3;omega
  generalize XmA e (min l.length 128)=y at hA ⊢
  generalize Xbv (decide ((128:Int) < l.length)) 9=x at hW ⊢
  have hI:=Xbn [x,y] (by simp)
  have tI:∀ c ∈ [Xc0 [x,y]],Xi c:=TreeL.cons (XW _) TreeL.nil
  refine Xb Tryz.func107 rfl rfl rfl ?_
  refine Zc ?_
  refine Zb ?_
  repeat(first|refine Zd ?_|(refine ZI ?_;intro id G hG))
  refine Za ?_
  refine ZaE ?_
  clear hG
  intro G hG
  obtain ⟨H1,e3⟩:∃ X,X=G++[some (Blk.mk [I x,I y] 29 true)]:=⟨_,rfl⟩
  have hG1:=hG.new (Blk.mk [I x,I y] 29 true)
  rw [← e3] at hG1
  repeat refine X4 ?_
  refine Z7 ?_
  repeat(first|refine Zbw ?_|refine ZbY ?_|refine ZbZ ?_|refine Za3 ?_|refine Zb0 ?_|refine ZaT ?_|refine Zaw ?_|refine Zd6 ?_)
  repeat(first|refine Zf ?_)
  exact ZE
set_option maxHeartbeats 16000000 in
theorem Xf7 (s:Sets) (e1 e2 e3 e4:Int) (h1:Iso Tryz.prog 104 [XL s.styles] (fun p=>p=I e1)) (h2:Iso Tryz.prog 105 [Xdk s.lists] (fun p=>p=I e2))
    (h3:Iso Tryz.prog 106 [X9 s.comments] (fun p=>p=I e3)) (h4:Iso Tryz.prog 107 [Xds s.vars] (fun p=>p=I e4)):Iso Tryz.prog 46 [.agg (XaW s)] (fun p=>p=I (XaA [e1,e2,e3,e4])):=by
  have hG:=Xc
  have hI:=Xbn [e1,e2,e3,e4] (by simp)
  have tI:∀ c ∈ [Xc0 [e1,e2,e3,e4]],Xi c:=TreeL.cons (XW _) TreeL.nil
  refine Xb Tryz.func46 rfl rfl rfl ?_
  refine Zc ?_
  refine Zb ?_
  repeat(first|refine Zd ?_|(refine ZI ?_;intro id G hG))
  refine Za ?_
  refine ZaE ?_
  clear hG
  intro G hG
  obtain ⟨H1,e3'⟩:∃ X,X=G++[some (Blk.mk [I e1,I e2,I e3,I e4] 29 true)]:=⟨_,rfl⟩
  have hG1:=hG.new (Blk.mk [I e1,I e2,I e3,I e4] 29 true)
  rw [← e3'] at hG1
  repeat refine X4 ?_
  refine Z7 ?_
  repeat(first|refine Y_k rfl rfl rfl (by decide) (fun _=>Iso.K rfl rfl rfl rfl h1 (TreeL.cons (XI _) TreeL.nil)) ?_|refine Y_k rfl rfl rfl (by decide) (fun _=>Iso.K rfl rfl rfl rfl h2 (TreeL.cons (XaL _) TreeL.nil)) ?_|refine Y_k rfl rfl rfl (by decide) (fun _=>Iso.K rfl rfl rfl rfl h3 (TreeL.cons (XaM _) TreeL.nil)) ?_|refine Y_k rfl rfl rfl (by decide) (fun _=>Iso.K rfl rfl rfl rfl h4 (TreeL.cons (Xb8 _) TreeL.nil)) ?_|refine Y_w 0 (by decide +kernel) rfl rfl rfl rfl (by decide) (Xbd rfl rfl rfl rfl rfl rfl rfl rfl) e3' ?_|refine Zaw ?_|refine Zd6 ?_)
  refine Zf ?_
  refine XJ (p:=I (XaA [e1,e2,e3,e4])) (q:=I (XaA [e1,e2,e3,e4])) rfl rfl (.refl _) (Xe _) rfl
end Go.Proofs.YtlcphjcpoinolaaGreat
