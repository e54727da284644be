/- Part of the proof: the walk over the program and its laws: Eg. -/
import Derived.Test.YtlcphjcpoinolaaGreatP0
import Derived.Test.YtlcphjcpoinolaaGreatP3
set_option linter.unusedVariables false
namespace Go.Proofs.YtlcphjcpoinolaaGreat
open Go.RowKit Go.Th
set_option maxRecDepth 20000
theorem XlJ (x y:List Prp):Iso Tryz.prog 133 [Xf x,Xf y] (fun p=>p=B (eqv x y)):=by
  have hG:=Xd
  refine Xb Tryz.func133 rfl rfl rfl ?_
  repeat(first|refine Zes ?_|(refine Xr rfl rfl rfl rfl rfl rfl (by decide) (Xku x y) (TreeL.cons (XX _) (TreeL.cons (XX _) TreeL.nil)) ?_;rintro _ rfl))
  exact ZB
set_option maxHeartbeats 8000000 in
theorem XlH (x y:Style):Iso Tryz.prog 132 [.agg (Xt x),.agg (Xt y)] (fun p=>p=B (eqv x y)):=by
  have hG:=Xd
  refine Xb Tryz.func132 rfl rfl rfl ?_
  repeat(first|refine Zev ?_|(refine ZH ?_;intro id G hG))
  generalize hb0:decide (x.id=y.id)=b0
  repeat(first|refine Zdj ?_|refine XcF (fun hb=>by subst hb;exact Iso.K rfl rfl rfl rfl (XlJ _ _) (TreeL.cons (XX _) (TreeL.cons (XX _) TreeL.nil))) rfl rfl rfl rfl rfl (by decide) ?_|refine Zew ?_|(refine Za2 ?_;intro bv hbv))
  repeat(first|refine Zev ?_)
  subst_vars
  refine ZaK ?_
  rw [Xp3];simp only [Xg9,Xee];rfl
theorem XaY (x:Style):(Xt x).length=6:=rfl
theorem XfC (x:Lst):(Xae x).length=2:=rfl
theorem XeQ (x:Style):∀ c ∈ Xt x,Xk c:=Xa (Xe _) (Xa (Xe _) (Xa (Xad _) (Xa (Xe _) (Xa (Xe _) (Xa (XX _) Xs)))))
theorem XjL (x:Lst):∀ c ∈ Xae x,Xk c:=Xa (Xe _) (Xa (Xbi _) Xs)
set_option maxHeartbeats 4000000 in
theorem Xje (F K:List Style) (hE:∀ (i:Nat) (x y:Style),F[i]?=some x→K[i]?=some y→Iso Tryz.prog 132 [.agg (Xt x),.agg (Xt y)] (fun p=>p=B (eqv x y))) :
    Iso Tryz.prog 131 [XaE Xt 6 F,XaE Xt 6 K,.fn (.func 132) []] (fun p=>p=B (eqv F K)):=by
  refine Xbg 0 rfl Tryz.func131 (by kernel_rfl) (by kernel_rfl) fun hF=>?_
  refine Xbg 1 rfl Tryz.func131 (by kernel_rfl) (by kernel_rfl) fun hG0=>?_
  have hG:=Xd
  refine Xb Tryz.func131 rfl rfl rfl ?_
  by_cases hl:F.length=K.length
  · repeat(first|refine Zes ?_)
    refine Xg (S:=Nat) (fun i=>[(1,XaE Xt 6 K),(2,.fn (.func 132) []),(15,XaE Xt 6 F),(16,I F.length),(17,I i)]) (fun i _=>i≤F.length∧eqv F K=eqv (F.drop i) (K.drop i)) (fun i=>F.length - i) 0
      (.cons rfl (.cons rfl (.cons rfl (.cons rfl (.cons rfl (.nil _)))))) ⟨by omega,rfl⟩ ?_
    rintro i H ⟨hi,he⟩
    have hG:=Has.nil H
    by_cases hil:i < F.length
    · obtain ⟨f,hf⟩:∃ x,F[i]?=some x:=⟨_,List.getElem?_eq_getElem hil⟩
      obtain ⟨g,hg⟩:∃ x,K[i]?=some x:=⟨_,List.getElem?_eq_getElem (by omega)⟩
      rw [Xbz hf hg] at he
      have hE:=hE i f g hf hg
      generalize hq:eqv f g=q at he hE
      repeat(first|refine Zes ?_|refine Xn rfl rfl (by decide) (Xc (cells:=F.flatMap Xt) rfl rfl rfl (by omega) (by exact Xp XaY F i f hf)) ?_|refine Xn rfl rfl (by decide) (Xc (cells:=K.flatMap Xt) rfl rfl rfl (by omega) (by exact Xp XaY K i g hg)) ?_|(refine Xr rfl rfl rfl rfl rfl rfl (by decide) hE (TreeL.cons (Xk.agg (XeQ f)) (TreeL.cons (Xk.agg (XeQ g)) TreeL.nil)) ?_;rintro _ rfl)|refine ZS ?_|(refine Zz ?_;intro G hG)|(refine ZI ?_;intro id G hG))
      cases q with
      | true =>
        rw [Bool.true_and] at he
        repeat(first|refine Zes ?_)
        exact Zbn
      | false =>
        rw [Bool.false_and] at he
        repeat(first|refine Zes ?_)
        rw [he]
        exact ZB
    · have e:i=F.length:=by omega
      rw [Xcs e hl] at he
      subst e
      repeat(first|refine Zes ?_)
      rw [he]
      exact ZB
  · rw [Xcr hl]
    repeat(first|refine Zes ?_)
    exact ZB
theorem Xkt (x y:List Style):Iso Tryz.prog 61 [XN x,XN y] (fun p=>p=B (eqv x y)):=by
  have hG:=Xd
  refine Xb Tryz.func61 rfl rfl rfl ?_
  repeat(first|refine Zes ?_|(refine Xr rfl rfl rfl rfl rfl rfl (by decide) (Xje x y (fun _ a b _ _=>XlH a b)) (TreeL.cons (XS _) (TreeL.cons (XS _) (TreeL.cons (Xk.fn Xs) TreeL.nil))) ?_;rintro _ rfl))
  exact ZB
set_option maxHeartbeats 8000000 in
theorem Xp9 (x y:Lst):Iso Tryz.prog 56 [.agg (Xae x),.agg (Xae y)] (fun p=>p=B (eqv x y)):=by
  have hG:=Xd
  refine Xb Tryz.func56 rfl rfl rfl ?_
  repeat(first|refine Zev ?_|(refine ZH ?_;intro id G hG))
  generalize hb0:decide (x.id=y.id)=b0
  repeat(first|refine XcF (fun hb=>by subst hb;exact Iso.K rfl rfl rfl rfl (XlL _ _) (TreeL.cons (Xbi _) (TreeL.cons (Xbi _) TreeL.nil))) rfl rfl rfl rfl rfl (by decide) ?_|refine Zew ?_|(refine Za2 ?_;intro bv hbv))
  repeat(first|refine Zev ?_)
  subst_vars
  refine ZaK ?_
  rw [Xwy];simp only [Xg9];rfl
set_option maxHeartbeats 4000000 in
theorem XlK (F K:List Lst) (hE:∀ (i:Nat) (x y:Lst),F[i]?=some x→K[i]?=some y→Iso Tryz.prog 56 [.agg (Xae x),.agg (Xae y)] (fun p=>p=B (eqv x y))) :
    Iso Tryz.prog 62 [XaE Xae 2 F,XaE Xae 2 K,.fn (.func 56) []] (fun p=>p=B (eqv F K)):=by
  refine Xbg 0 rfl Tryz.func62 (by kernel_rfl) (by kernel_rfl) fun hF=>?_
  refine Xbg 1 rfl Tryz.func62 (by kernel_rfl) (by kernel_rfl) fun hG0=>?_
  have hG:=Xd
  refine Xb Tryz.func62 rfl rfl rfl ?_
  by_cases hl:F.length=K.length
  · repeat(first|refine Zes ?_)
    refine Xg (S:=Nat) (fun i=>[(1,XaE Xae 2 K),(2,.fn (.func 56) []),(15,XaE Xae 2 F),(16,I F.length),(17,I i)]) (fun i _=>i≤F.length∧eqv F K=eqv (F.drop i) (K.drop i)) (fun i=>F.length - i) 0
      (.cons rfl (.cons rfl (.cons rfl (.cons rfl (.cons rfl (.nil _)))))) ⟨by omega,rfl⟩ ?_
    rintro i H ⟨hi,he⟩
    have hG:=Has.nil H
    by_cases hil:i < F.length
    · obtain ⟨f,hf⟩:∃ x,F[i]?=some x:=⟨_,List.getElem?_eq_getElem hil⟩
      obtain ⟨g,hg⟩:∃ x,K[i]?=some x:=⟨_,List.getElem?_eq_getElem (by omega)⟩
      rw [Xbz hf hg] at he
      have hE:=hE i f g hf hg
      generalize hq:eqv f g=q at he hE
      repeat(first|refine Zes ?_|refine Xn rfl rfl (by decide) (Xc (cells:=F.flatMap Xae) rfl rfl rfl (by omega) (by exact Xp XfC F i f hf)) ?_|refine Xn rfl rfl (by decide) (Xc (cells:=K.flatMap Xae) rfl rfl rfl (by omega) (by exact Xp XfC K i g hg)) ?_|(refine Xr rfl rfl rfl rfl rfl rfl (by decide) hE (TreeL.cons (Xk.agg (XjL f)) (TreeL.cons (Xk.agg (XjL g)) TreeL.nil)) ?_;rintro _ rfl)|refine ZS ?_|(refine Zz ?_;intro G hG)|(refine ZI ?_;intro id G hG))
      cases q with
      | true =>
        rw [Bool.true_and] at he
        repeat(first|refine Zes ?_)
        exact Zbn
      | false =>
        rw [Bool.false_and] at he
        repeat(first|refine Zes ?_)
        rw [he]
        exact ZB
    · have e:i=F.length:=by omega
      rw [Xcs e hl] at he
      subst e
      repeat(first|refine Zes ?_)
      rw [he]
      exact ZB
  · rw [Xcr hl]
    repeat(first|refine Zes ?_)
    exact ZB
set_option maxHeartbeats 4000000 in
theorem Xkv (F K:List Item) (hE:∀ (i:Nat) (x y:Item),F[i]?=some x→K[i]?=some y→Iso Tryz.prog 127 [.agg (Xo x),.agg (Xo y)] (fun p=>p=B (eqv x y))) :
    Iso Tryz.prog 126 [XaE Xo 11 F,XaE Xo 11 K,.fn (.func 127) []] (fun p=>p=B (eqv F K)):=by
  refine Xbg 0 rfl Tryz.func126 (by kernel_rfl) (by kernel_rfl) fun hF=>?_
  refine Xbg 1 rfl Tryz.func126 (by kernel_rfl) (by kernel_rfl) fun hG0=>?_
  have hG:=Xd
  refine Xb Tryz.func126 rfl rfl rfl ?_
  by_cases hl:F.length=K.length
  · repeat(first|refine Zes ?_)
    refine Xg (S:=Nat) (fun i=>[(1,XaE Xo 11 K),(2,.fn (.func 127) []),(15,XaE Xo 11 F),(16,I F.length),(17,I i)]) (fun i _=>i≤F.length∧eqv F K=eqv (F.drop i) (K.drop i)) (fun i=>F.length - i) 0
      (.cons rfl (.cons rfl (.cons rfl (.cons rfl (.cons rfl (.nil _)))))) ⟨by omega,rfl⟩ ?_
    rintro i H ⟨hi,he⟩
    have hG:=Has.nil H
    by_cases hil:i < F.length
    · obtain ⟨f,hf⟩:∃ x,F[i]?=some x:=⟨_,List.getElem?_eq_getElem hil⟩
      obtain ⟨g,hg⟩:∃ x,K[i]?=some x:=⟨_,List.getElem?_eq_getElem (by omega)⟩
      rw [Xbz hf hg] at he
      have hE:=hE i f g hf hg
      have tf:∀ c ∈ Xo f,Xk c:=XaW f
      have tg:∀ c ∈ Xo g,Xk c:=XaW g
      generalize hq:eqv f g=q at he hE
      obtain ⟨f0,f1,f2,f3,f4,f5,f6⟩:=f
      obtain ⟨g0,g1,g2,g3,g4,g5,g6⟩:=g
      rw [XG] at tf tg hE
      rw [XG] at hE
      repeat(first|refine Zes ?_|refine Xn rfl rfl (by decide) (Xc (cells:=F.flatMap Xo) rfl rfl rfl (by omega) (by exact XiX hf)) ?_|refine Xn rfl rfl (by decide) (Xc (cells:=K.flatMap Xo) rfl rfl rfl (by omega) (by exact XiX hg)) ?_|(refine Zcn ?_;rintro _ rfl)|refine ZS ?_|(refine Zz ?_;intro G hG)|(refine ZI ?_;intro id G hG))
      cases q with
      | true =>
        rw [Bool.true_and] at he
        repeat(first|refine Zes ?_)
        exact Zbn
      | false =>
        rw [Bool.false_and] at he
        repeat(first|refine Zes ?_)
        rw [he]
        exact ZB
    · have e:i=F.length:=by omega
      rw [Xcs e hl] at he
      subst e
      repeat(first|refine Zes ?_)
      rw [he]
      exact ZB
  · rw [Xcr hl]
    repeat(first|refine Zes ?_)
    exact ZB
set_option maxHeartbeats 4000000 in
theorem XlI (F K:List Row) (hE:∀ (i:Nat) (x y:Row),F[i]?=some x→K[i]?=some y→Iso Tryz.prog 187 [.agg (XT x),.agg (XT y)] (fun p=>p=B (eqv x y))) :
    Iso Tryz.prog 186 [XaE XT 6 F,XaE XT 6 K,.fn (.func 187) []] (fun p=>p=B (eqv F K)):=by
  refine Xbg 0 rfl Tryz.func186 (by kernel_rfl) (by kernel_rfl) fun hF=>?_
  refine Xbg 1 rfl Tryz.func186 (by kernel_rfl) (by kernel_rfl) fun hG0=>?_
  have hG:=Xd
  refine Xb Tryz.func186 rfl rfl rfl ?_
  by_cases hl:F.length=K.length
  · repeat(first|refine Zes ?_)
    refine Xg (S:=Nat) (fun i=>[(1,XaE XT 6 K),(2,.fn (.func 187) []),(15,XaE XT 6 F),(16,I F.length),(17,I i)]) (fun i _=>i≤F.length∧eqv F K=eqv (F.drop i) (K.drop i)) (fun i=>F.length - i) 0
      (.cons rfl (.cons rfl (.cons rfl (.cons rfl (.cons rfl (.nil _)))))) ⟨by omega,rfl⟩ ?_
    rintro i H ⟨hi,he⟩
    have hG:=Has.nil H
    by_cases hil:i < F.length
    · obtain ⟨f,hf⟩:∃ x,F[i]?=some x:=⟨_,List.getElem?_eq_getElem hil⟩
      obtain ⟨g,hg⟩:∃ x,K[i]?=some x:=⟨_,List.getElem?_eq_getElem (by omega)⟩
      rw [Xbz hf hg] at he
      have hE:=hE i f g hf hg
      have tf:∀ c ∈ XT f,Xk c:=Xbv f
      have tg:∀ c ∈ XT g,Xk c:=Xbv g
      generalize hq:eqv f g=q at he hE
      obtain ⟨f0,f1⟩:=f
      obtain ⟨g0,g1⟩:=g
      rw [X0] at tf tg hE
      rw [X0] at hE
      repeat(first|refine Zes ?_|refine Xn rfl rfl (by decide) (Xc (cells:=F.flatMap XT) rfl rfl rfl (by omega) (by exact Xmt hf)) ?_|refine Xn rfl rfl (by decide) (Xc (cells:=K.flatMap XT) rfl rfl rfl (by omega) (by exact Xmt hg)) ?_|(refine Zcn ?_;rintro _ rfl)|refine ZS ?_|(refine Zz ?_;intro G hG)|(refine ZI ?_;intro id G hG))
      cases q with
      | true =>
        rw [Bool.true_and] at he
        repeat(first|refine Zes ?_)
        exact Zbn
      | false =>
        rw [Bool.false_and] at he
        repeat(first|refine Zes ?_)
        rw [he]
        exact ZB
    · have e:i=F.length:=by omega
      rw [Xcs e hl] at he
      subst e
      repeat(first|refine Zes ?_)
      rw [he]
      exact ZB
  · rw [Xcr hl]
    repeat(first|refine Zes ?_)
    exact ZB
set_option maxHeartbeats 4000000 in
theorem Xkw (F K:List Cell) (hE:∀ (i:Nat) (x y:Cell),F[i]?=some x→K[i]?=some y→Iso Tryz.prog 208 [.agg (XA x),.agg (XA y)] (fun p=>p=B (eqv x y))) :
    Iso Tryz.prog 207 [XaE XA 7 F,XaE XA 7 K,.fn (.func 208) []] (fun p=>p=B (eqv F K)):=by
  refine Xbg 0 rfl Tryz.func207 (by kernel_rfl) (by kernel_rfl) fun hF=>?_
  refine Xbg 1 rfl Tryz.func207 (by kernel_rfl) (by kernel_rfl) fun hG0=>?_
  have hG:=Xd
  refine Xb Tryz.func207 rfl rfl rfl ?_
  by_cases hl:F.length=K.length
  · repeat(first|refine Zes ?_)
    refine Xg (S:=Nat) (fun i=>[(1,XaE XA 7 K),(2,.fn (.func 208) []),(15,XaE XA 7 F),(16,I F.length),(17,I i)]) (fun i _=>i≤F.length∧eqv F K=eqv (F.drop i) (K.drop i)) (fun i=>F.length - i) 0
      (.cons rfl (.cons rfl (.cons rfl (.cons rfl (.cons rfl (.nil _)))))) ⟨by omega,rfl⟩ ?_
    rintro i H ⟨hi,he⟩
    have hG:=Has.nil H
    by_cases hil:i < F.length
    · obtain ⟨f,hf⟩:∃ x,F[i]?=some x:=⟨_,List.getElem?_eq_getElem hil⟩
      obtain ⟨g,hg⟩:∃ x,K[i]?=some x:=⟨_,List.getElem?_eq_getElem (by omega)⟩
      rw [Xbz hf hg] at he
      have hE:=hE i f g hf hg
      have tf:∀ c ∈ XA f,Xk c:=Xbn f
      have tg:∀ c ∈ XA g,Xk c:=Xbn g
      generalize hq:eqv f g=q at he hE
      obtain ⟨f0,f1,f2⟩:=f
      obtain ⟨g0,g1,g2⟩:=g
      rw [XW] at tf tg hE
      rw [XW] at hE
      repeat(first|refine Zes ?_|refine Xn rfl rfl (by decide) (Xc (cells:=F.flatMap XA) rfl rfl rfl (by omega) (by exact Xjq hf)) ?_|refine Xn rfl rfl (by decide) (Xc (cells:=K.flatMap XA) rfl rfl rfl (by omega) (by exact Xjq hg)) ?_|(refine Zcn ?_;rintro _ rfl)|refine ZS ?_|(refine Zz ?_;intro G hG)|(refine ZI ?_;intro id G hG))
      cases q with
      | true =>
        rw [Bool.true_and] at he
        repeat(first|refine Zes ?_)
        exact Zbn
      | false =>
        rw [Bool.false_and] at he
        repeat(first|refine Zes ?_)
        rw [he]
        exact ZB
    · have e:i=F.length:=by omega
      rw [Xcs e hl] at he
      subst e
      repeat(first|refine Zes ?_)
      rw [he]
      exact ZB
  · rw [Xcr hl]
    repeat(first|refine Zes ?_)
    exact ZB
abbrev EqI (l:List Item):Prop:=∀ m,Iso Tryz.prog 58 [Xh l,Xh m] (fun p=>p=B (eqv l m))
set_option maxHeartbeats 8000000 in
theorem Xn2 (x y:Cell) (hI:∀ l,SizeOf.sizeOf l < SizeOf.sizeOf x→EqI l):Iso Tryz.prog 208 [.agg (XA x),.agg (XA y)] (fun p=>p=B (eqv x y)):=by
  have hG:=Xd
  obtain ⟨i,h,f⟩:=x
  obtain ⟨i',h',f'⟩:=y
  have hF:=hI f (by simp;omega)
  rw [XW,XW]
  refine Xb Tryz.func208 rfl rfl rfl ?_
  repeat(first|refine Zev ?_|(refine ZH ?_;intro id G hG))
  generalize hb0:decide (i=i')=b0
  repeat(first|refine Zdk ?_|refine Zdl ?_|refine Zew ?_|(refine Za2 ?_;intro bv hbv))
  repeat(first|refine Zev ?_)
  subst_vars
  refine ZaK ?_
  rw [Xr7];simp only [Xg9];rfl
set_option maxHeartbeats 8000000 in
theorem Xp6 (x y:Row) (hI:∀ l,SizeOf.sizeOf l < SizeOf.sizeOf x→EqI l):Iso Tryz.prog 187 [.agg (XT x),.agg (XT y)] (fun p=>p=B (eqv x y)):=by
  have hG:=Xd
  obtain ⟨h,c⟩:=x
  obtain ⟨h',c'⟩:=y
  have hC:=Xkw c c' (fun i x y hx hy=>Xn2 x y fun l hl=>hI l (by have:=List.sizeOf_lt_of_mem (List.mem_of_getElem? hx);simp;omega))
  rw [X0,X0]
  refine Xb Tryz.func187 rfl rfl rfl ?_
  repeat(first|refine Zev ?_|(refine Xr rfl rfl rfl rfl rfl rfl (by decide) (Xez h h') (TreeL.cons (Xk.agg (X6 _)) (TreeL.cons (Xk.agg (X6 _)) TreeL.nil)) ?_;rintro _ rfl)|(refine ZH ?_;intro id G hG))
  generalize hb0:eqv h h'=b0
  repeat(first|refine XcF (fun hb=>by subst hb;exact Iso.K rfl rfl rfl rfl hC (TreeL.cons (XeT _) (TreeL.cons (XeT _) (TreeL.cons (Xk.fn Xs) TreeL.nil)))) rfl rfl rfl rfl rfl (by decide) ?_|refine Zew ?_|(refine Za2 ?_;intro bv hbv))
  repeat(first|refine Zev ?_)
  subst_vars
  refine ZaK ?_
  rw [Xwu];rfl
set_option maxHeartbeats 8000000 in
theorem Xn1 (x y:Item) (hI:∀ l,SizeOf.sizeOf l < SizeOf.sizeOf x→EqI l):Iso Tryz.prog 127 [.agg (Xo x),.agg (Xo y)] (fun p=>p=B (eqv x y)):=by
  have hG:=Xd
  obtain ⟨k,c,i,t,h,f,r⟩:=x
  obtain ⟨k',c',i',t',h',f',r'⟩:=y
  have hF:=hI f (by simp;omega)
  have hR:=XlI r r' (fun i x y hx hy=>Xp6 x y fun l hl=>hI l (by have:=List.sizeOf_lt_of_mem (List.mem_of_getElem? hx);simp;omega))
  rw [XG,XG]
  refine Xb Tryz.func127 rfl rfl rfl ?_
  repeat(first|refine Zev ?_|(refine ZH ?_;intro id G hG))
  generalize hb0:decide (k=k')=b0
  repeat(first|refine Zdj ?_|refine Zdk ?_|refine Zdl ?_|refine XcF (fun hb=>by subst hb;exact Iso.K rfl rfl rfl rfl hR (TreeL.cons (Xca _) (TreeL.cons (Xca _) (TreeL.cons (Xk.fn Xs) TreeL.nil)))) rfl rfl rfl rfl rfl (by decide) ?_|refine Zew ?_|(refine Za2 ?_;intro bv hbv))
  repeat(first|refine Zev ?_)
  subst_vars
  refine ZaK ?_
  rw [Xr5];simp only [Xg9,Xee];rfl
theorem XlM:∀ (n:Nat) (l:List Item),SizeOf.sizeOf l≤n→EqI l:=by
  intro n
  induction n using Nat.strongRecOn with
  | _ n ih =>
    intro l hl m
    have h24:=Xkv l m (fun i x y hx hy=>Xn1 x y fun l' hl'=>by
      have:=List.sizeOf_lt_of_mem (List.mem_of_getElem? hx)
      exact ih (SizeOf.sizeOf l') (by omega) l' (Nat.le_refl _))
    have hG:=Xd
    refine Xb Tryz.func58 rfl rfl rfl ?_
    repeat(first|refine Zes ?_|(refine Xr rfl rfl rfl rfl rfl rfl (by decide) h24 (TreeL.cons (XM _) (TreeL.cons (XM _) (TreeL.cons (Xk.fn Xs) TreeL.nil))) ?_;rintro _ rfl))
    exact ZB
theorem Xha (l m:List Item):Iso Tryz.prog 58 [Xh l,Xh m] (fun p=>p=B (eqv l m)):=XlM _ l (Nat.le_refl _) m
end Go.Proofs.YtlcphjcpoinolaaGreat
