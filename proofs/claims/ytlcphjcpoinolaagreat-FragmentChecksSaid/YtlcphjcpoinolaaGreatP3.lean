/- Part of the proof: the walk over the program and its laws: Eq Ef. -/
import Derived.Test.YtlcphjcpoinolaaGreatP0
import Derived.Test.YtlcphjcpoinolaaGreatP2
set_option linter.unusedVariables false
namespace Go.Proofs.YtlcphjcpoinolaaGreat
open Go.RowKit Go.Th
set_option maxRecDepth 20000
theorem Xo6:Tryz.prog.eqGuardType Tryz.prog.depth 183=false:=by kernel_rfl
theorem Xrx:Tryz.prog.stoodInHeld 183=false:=by kernel_rfl
theorem Xnw:Tryz.prog.underlying 183=some (.struct (Tryz.prog.fieldsOf 183)):=by kernel_rfl
theorem Xyz:(Tryz.prog.fieldsOf 183).toList=[{ name:= "Key",type:=3,offset:=0,embedded:=false,tag:= "",pkgPath:= "",byteOffset:=0 },{ name:= "Value",type:=3,offset:=1,embedded:=false,tag:= "",pkgPath:= "",byteOffset:=8 }]:=by kernel_rfl
theorem XuB (a0 b0:Int) (a1 b1:Int) (x y:Operand) (w:World):(do eqGuard .neq 183 x y (.agg #[.int .i64 a0,.int .i64 a1]) (.agg #[.int .i64 b0,.int .i64 b1]);binOp .neq 183 (.agg #[.int .i64 a0,.int .i64 a1]) (.agg #[.int .i64 b0,.int .i64 b1]):Sem Value).run Tryz.prog w=.ok (.bool (!(eqv a0 b0 && eqv a1 b1))) w:=by
  simp only [Sem.run_bind,run_eqGuard_agg _ _ _ _ _ _ _ Xo6,Result.andThen_ok,run_neq_struct,run_equalIn_agg _ _ _ _ _ Xnw Xrx,Xyz,Op.eqFields]
  by_cases h0:a0=b0
  case neg =>
    have h0':(a0 == b0)=false:=by simp [h0]
    rw [show (eqv a0 b0 && eqv a1 b1)=false from by simp [XaJ h0]]
    go_simp
  subst h0
  by_cases h1:a1=b1
  case neg =>
    have h1':(a1 == b1)=false:=by simp [h1]
    rw [show (eqv a0 a0 && eqv a1 b1)=false from by simp [XaJ h1]]
    go_simp
  subst h1
  simp only [Xc0,Bool.and_self]
  go_simp
theorem XqC {o:Oper} {E:Env} {H:Xi} {ty:TypeId} {x y:Operand} {a b:Prp} (ho:o.op=.binOp .neq 183 x y ty) (hx:E.ev x=some (.agg (XaL a))) (hy:E.ev y=some (.agg (XaL b))):OpV Tryz.prog o E H (.v (.bool (!(eqv a b)))):=by
  rw [Xww]
  exact X7 ho hx hy rfl rfl (fun w=>XuB _ _ _ _ _ _ w) rfl
theorem Xo5 (x:Prp):(XaL x).length=2:=rfl
set_option maxHeartbeats 4000000 in
theorem Xku (F G:List Prp):Iso Tryz.prog 128 [XaE XaL 2 F,XaE XaL 2 G] (fun p=>p=B (eqv F G)):=by
  refine Xbg 0 rfl Tryz.func128 (by kernel_rfl) (by kernel_rfl) fun hF=>?_
  refine Xbg 1 rfl Tryz.func128 (by kernel_rfl) (by kernel_rfl) fun hG0=>?_
  have hG:=Xd
  refine Xb Tryz.func128 rfl rfl rfl ?_
  by_cases hl:F.length=G.length
  · repeat(first|refine Zes ?_)
    refine Xg (S:=Nat) (fun i=>[(0,XaE XaL 2 F),(1,XaE XaL 2 G),(12,I F.length),(13,I i)]) (fun i _=>i≤F.length∧eqv F G=eqv (F.drop i) (G.drop i)) (fun i=>F.length - i) 0
      (.cons rfl (.cons rfl (.cons rfl (.cons rfl (.nil _))))) ⟨by omega,rfl⟩ ?_
    rintro i H ⟨hi,he⟩
    have hG:=Has.nil H
    by_cases hil:i < F.length
    · obtain ⟨f,hf⟩:∃ x,F[i]?=some x:=⟨_,List.getElem?_eq_getElem hil⟩
      obtain ⟨g,hg⟩:∃ x,G[i]?=some x:=⟨_,List.getElem?_eq_getElem (by omega)⟩
      rw [Xbz hf hg] at he
      repeat(first|refine Zes ?_)
      refine ZD ?_
      repeat(first|refine Y_q rfl rfl rfl (by decide) (Xc (cells:=F.flatMap XaL) rfl rfl rfl (by omega) (by exact Xp Xo5 F i f hf)) ?_|refine Y_q rfl rfl rfl (by decide) (Xc (cells:=G.flatMap XaL) rfl rfl rfl (by omega) (by exact Xp Xo5 G i g hg)) ?_|refine Y_q rfl rfl rfl (by decide) (XqC (a:=f) (b:=g) rfl rfl rfl) ?_|refine Zeu ?_)
      cases hq:eqv f g with
      | true =>
        have hq':(!eqv f g)=false:=by rw [hq];rfl
        rw [hq,Bool.true_and] at he
        repeat(first|refine Zes ?_)
        exact ZaY
      | false =>
        have hq':(!eqv f g)=true:=by rw [hq];rfl
        rw [hq,Bool.false_and] at he
        repeat(first|refine Zes ?_)
        rw [he]
        exact ZB
    · have e:i=F.length:=by omega
      rw [Xcs e hl] at he
      subst e
      repeat(first|refine Zes ?_)
      rw [he]
      exact ZB
  · rw [Xcr hl]
    repeat(first|refine Zes ?_)
    exact ZB
theorem Xse:Tryz.prog.eqGuardType Tryz.prog.depth 199=false:=by kernel_rfl
theorem XwB:Tryz.prog.stoodInHeld 199=false:=by kernel_rfl
theorem Xqh:Tryz.prog.underlying 199=some (.struct (Tryz.prog.fieldsOf 199)):=by kernel_rfl
theorem XBO:(Tryz.prog.fieldsOf 199).toList=[{ name:= "Rev",type:=3,offset:=0,embedded:=false,tag:= "",pkgPath:= "",byteOffset:=0 },{ name:= "Move",type:=3,offset:=1,embedded:=false,tag:= "",pkgPath:= "",byteOffset:=8 }]:=by kernel_rfl
theorem XAI (a0 b0:Int) (a1 b1:Int) (x y:Operand) (w:World):(do eqGuard .neq 199 x y (.agg #[.int .i64 a0,.int .i64 a1]) (.agg #[.int .i64 b0,.int .i64 b1]);binOp .neq 199 (.agg #[.int .i64 a0,.int .i64 a1]) (.agg #[.int .i64 b0,.int .i64 b1]):Sem Value).run Tryz.prog w=.ok (.bool (!(eqv a0 b0 && eqv a1 b1))) w:=by
  simp only [Sem.run_bind,run_eqGuard_agg _ _ _ _ _ _ _ Xse,Result.andThen_ok,run_neq_struct,run_equalIn_agg _ _ _ _ _ Xqh XwB,XBO,Op.eqFields]
  by_cases h0:a0=b0
  case neg =>
    have h0':(a0 == b0)=false:=by simp [h0]
    rw [show (eqv a0 b0 && eqv a1 b1)=false from by simp [XaJ h0]]
    go_simp
  subst h0
  by_cases h1:a1=b1
  case neg =>
    have h1':(a1 == b1)=false:=by simp [h1]
    rw [show (eqv a0 a0 && eqv a1 b1)=false from by simp [XaJ h1]]
    go_simp
  subst h1
  simp only [Xc0,Bool.and_self]
  go_simp
theorem XsJ {o:Oper} {E:Env} {H:Xi} {ty:TypeId} {x y:Operand} {a b:Dl} (ho:o.op=.binOp .neq 199 x y ty) (hx:E.ev x=some (.agg (XcA a))) (hy:E.ev y=some (.agg (XcA b))):OpV Tryz.prog o E H (.v (.bool (!(eqv a b)))):=by
  rw [XAE]
  exact X7 ho hx hy rfl rfl (fun w=>XAI _ _ _ _ _ _ w) rfl
theorem Xtf (x:Dl):(XcA x).length=2:=rfl
set_option maxHeartbeats 4000000 in
theorem Xr8 (F G:List Dl):Iso Tryz.prog 129 [XaE XcA 2 F,XaE XcA 2 G] (fun p=>p=B (eqv F G)):=by
  refine Xbg 0 rfl Tryz.func129 (by kernel_rfl) (by kernel_rfl) fun hF=>?_
  refine Xbg 1 rfl Tryz.func129 (by kernel_rfl) (by kernel_rfl) fun hG0=>?_
  have hG:=Xd
  refine Xb Tryz.func129 rfl rfl rfl ?_
  by_cases hl:F.length=G.length
  · repeat(first|refine Zes ?_)
    refine Xg (S:=Nat) (fun i=>[(0,XaE XcA 2 F),(1,XaE XcA 2 G),(12,I F.length),(13,I i)]) (fun i _=>i≤F.length∧eqv F G=eqv (F.drop i) (G.drop i)) (fun i=>F.length - i) 0
      (.cons rfl (.cons rfl (.cons rfl (.cons rfl (.nil _))))) ⟨by omega,rfl⟩ ?_
    rintro i H ⟨hi,he⟩
    have hG:=Has.nil H
    by_cases hil:i < F.length
    · obtain ⟨f,hf⟩:∃ x,F[i]?=some x:=⟨_,List.getElem?_eq_getElem hil⟩
      obtain ⟨g,hg⟩:∃ x,G[i]?=some x:=⟨_,List.getElem?_eq_getElem (by omega)⟩
      rw [Xbz hf hg] at he
      repeat(first|refine Zes ?_)
      refine ZD ?_
      repeat(first|refine Y_q rfl rfl rfl (by decide) (Xc (cells:=F.flatMap XcA) rfl rfl rfl (by omega) (by exact Xp Xtf F i f hf)) ?_|refine Y_q rfl rfl rfl (by decide) (Xc (cells:=G.flatMap XcA) rfl rfl rfl (by omega) (by exact Xp Xtf G i g hg)) ?_|refine Y_q rfl rfl rfl (by decide) (XsJ (a:=f) (b:=g) rfl rfl rfl) ?_|refine Zeu ?_)
      cases hq:eqv f g with
      | true =>
        have hq':(!eqv f g)=false:=by rw [hq];rfl
        rw [hq,Bool.true_and] at he
        repeat(first|refine Zes ?_)
        exact ZaY
      | false =>
        have hq':(!eqv f g)=true:=by rw [hq];rfl
        rw [hq,Bool.false_and] at he
        repeat(first|refine Zes ?_)
        rw [he]
        exact ZB
    · have e:i=F.length:=by omega
      rw [Xcs e hl] at he
      subst e
      repeat(first|refine Zes ?_)
      rw [he]
      exact ZB
  · rw [Xcr hl]
    repeat(first|refine Zes ?_)
    exact ZB
theorem Xpj:Tryz.prog.eqGuardType Tryz.prog.depth 203=false:=by kernel_rfl
theorem XrJ:Tryz.prog.stoodInHeld 203=false:=by kernel_rfl
theorem XnE:Tryz.prog.underlying 203=some (.struct (Tryz.prog.fieldsOf 203)):=by kernel_rfl
theorem XyJ:(Tryz.prog.fieldsOf 203).toList=[{ name:= "Rev",type:=3,offset:=0,embedded:=false,tag:= "",pkgPath:= "",byteOffset:=0 },{ name:= "Key",type:=3,offset:=1,embedded:=false,tag:= "",pkgPath:= "",byteOffset:=8 },{ name:= "Before",type:=3,offset:=2,embedded:=false,tag:= "",pkgPath:= "",byteOffset:=16 },{ name:= "Had",type:=4,offset:=3,embedded:=false,tag:= "",pkgPath:= "",byteOffset:=24 }]:=by kernel_rfl
theorem XuL (a0 b0:Int) (a1 b1:Int) (a2 b2:Int) (a3 b3:Bool) (x y:Operand) (w:World):(do eqGuard .neq 203 x y (.agg #[.int .i64 a0,.int .i64 a1,.int .i64 a2,.bool a3]) (.agg #[.int .i64 b0,.int .i64 b1,.int .i64 b2,.bool b3]);binOp .neq 203 (.agg #[.int .i64 a0,.int .i64 a1,.int .i64 a2,.bool a3]) (.agg #[.int .i64 b0,.int .i64 b1,.int .i64 b2,.bool b3]):Sem Value).run Tryz.prog w=.ok (.bool (!(eqv a0 b0 && eqv a1 b1 && eqv a2 b2 && eqv a3 b3))) w:=by
  simp only [Sem.run_bind,run_eqGuard_agg _ _ _ _ _ _ _ Xpj,Result.andThen_ok,run_neq_struct,run_equalIn_agg _ _ _ _ _ XnE XrJ,XyJ,Op.eqFields]
  by_cases h0:a0=b0
  case neg =>
    have h0':(a0 == b0)=false:=by simp [h0]
    rw [show (eqv a0 b0 && eqv a1 b1 && eqv a2 b2 && eqv a3 b3)=false from by simp [XaJ h0]]
    go_simp
  subst h0
  by_cases h1:a1=b1
  case neg =>
    have h1':(a1 == b1)=false:=by simp [h1]
    rw [show (eqv a0 a0 && eqv a1 b1 && eqv a2 b2 && eqv a3 b3)=false from by simp [XaJ h1]]
    go_simp
  subst h1
  by_cases h2:a2=b2
  case neg =>
    have h2':(a2 == b2)=false:=by simp [h2]
    rw [show (eqv a0 a0 && eqv a1 a1 && eqv a2 b2 && eqv a3 b3)=false from by simp [XaJ h2]]
    go_simp
  subst h2
  by_cases h3:a3=b3
  case neg =>
    have h3':(a3 == b3)=false:=by simp [h3]
    rw [show (eqv a0 a0 && eqv a1 a1 && eqv a2 a2 && eqv a3 b3)=false from by simp [XaJ h3]]
    go_simp
  subst h3
  simp only [Xc0,Bool.and_self]
  go_simp
theorem XqF {o:Oper} {E:Env} {H:Xi} {ty:TypeId} {x y:Operand} {a b:Lyr} (ho:o.op=.binOp .neq 203 x y ty) (hx:E.ev x=some (.agg (Xaw a))) (hy:E.ev y=some (.agg (Xaw b))):OpV Tryz.prog o E H (.v (.bool (!(eqv a b)))):=by
  rw [Xwx]
  exact X7 ho hx hy rfl rfl (fun w=>XuL _ _ _ _ _ _ _ _ _ _ w) rfl
theorem Xpi (x:Lyr):(Xaw x).length=4:=rfl
set_option maxHeartbeats 4000000 in
theorem Xp8 (F G:List Lyr):Iso Tryz.prog 130 [XaE Xaw 4 F,XaE Xaw 4 G] (fun p=>p=B (eqv F G)):=by
  refine Xbg 0 rfl Tryz.func130 (by kernel_rfl) (by kernel_rfl) fun hF=>?_
  refine Xbg 1 rfl Tryz.func130 (by kernel_rfl) (by kernel_rfl) fun hG0=>?_
  have hG:=Xd
  refine Xb Tryz.func130 rfl rfl rfl ?_
  by_cases hl:F.length=G.length
  · repeat(first|refine Zes ?_)
    refine Xg (S:=Nat) (fun i=>[(0,XaE Xaw 4 F),(1,XaE Xaw 4 G),(12,I F.length),(13,I i)]) (fun i _=>i≤F.length∧eqv F G=eqv (F.drop i) (G.drop i)) (fun i=>F.length - i) 0
      (.cons rfl (.cons rfl (.cons rfl (.cons rfl (.nil _))))) ⟨by omega,rfl⟩ ?_
    rintro i H ⟨hi,he⟩
    have hG:=Has.nil H
    by_cases hil:i < F.length
    · obtain ⟨f,hf⟩:∃ x,F[i]?=some x:=⟨_,List.getElem?_eq_getElem hil⟩
      obtain ⟨g,hg⟩:∃ x,G[i]?=some x:=⟨_,List.getElem?_eq_getElem (by omega)⟩
      rw [Xbz hf hg] at he
      repeat(first|refine Zes ?_)
      refine ZD ?_
      repeat(first|refine Y_q rfl rfl rfl (by decide) (Xc (cells:=F.flatMap Xaw) rfl rfl rfl (by omega) (by exact Xp Xpi F i f hf)) ?_|refine Y_q rfl rfl rfl (by decide) (Xc (cells:=G.flatMap Xaw) rfl rfl rfl (by omega) (by exact Xp Xpi G i g hg)) ?_|refine Y_q rfl rfl rfl (by decide) (XqF (a:=f) (b:=g) rfl rfl rfl) ?_|refine Zeu ?_)
      cases hq:eqv f g with
      | true =>
        have hq':(!eqv f g)=false:=by rw [hq];rfl
        rw [hq,Bool.true_and] at he
        repeat(first|refine Zes ?_)
        exact ZaY
      | false =>
        have hq':(!eqv f g)=true:=by rw [hq];rfl
        rw [hq,Bool.false_and] at he
        repeat(first|refine Zes ?_)
        rw [he]
        exact ZB
    · have e:i=F.length:=by omega
      rw [Xcs e hl] at he
      subst e
      repeat(first|refine Zes ?_)
      rw [he]
      exact ZB
  · rw [Xcr hl]
    repeat(first|refine Zes ?_)
    exact ZB
theorem Xln:Tryz.prog.eqGuardType Tryz.prog.depth 127=false:=by kernel_rfl
theorem XnI:Tryz.prog.stoodInHeld 127=false:=by kernel_rfl
theorem Xkd:Tryz.prog.underlying 127=some (.struct (Tryz.prog.fieldsOf 127)):=by kernel_rfl
theorem XrO:(Tryz.prog.fieldsOf 127).toList=[{ name:= "Format",type:=3,offset:=0,embedded:=false,tag:= "",pkgPath:= "",byteOffset:=0 },{ name:= "Start",type:=3,offset:=1,embedded:=false,tag:= "",pkgPath:= "",byteOffset:=8 },{ name:= "Template",type:=9,offset:=2,embedded:=false,tag:= "",pkgPath:= "",byteOffset:=16 },{ name:= "Restart",type:=3,offset:=3,embedded:=false,tag:= "",pkgPath:= "",byteOffset:=32 }]:=by kernel_rfl
theorem Xpm (a0 b0:Int) (a1 b1:Int) (a2 b2:ByteArray) (a3 b3:Int) (x y:Operand) (w:World):(do eqGuard .neq 127 x y (.agg #[.int .i64 a0,.int .i64 a1,.string a2,.int .i64 a3]) (.agg #[.int .i64 b0,.int .i64 b1,.string b2,.int .i64 b3]);binOp .neq 127 (.agg #[.int .i64 a0,.int .i64 a1,.string a2,.int .i64 a3]) (.agg #[.int .i64 b0,.int .i64 b1,.string b2,.int .i64 b3]):Sem Value).run Tryz.prog w=.ok (.bool (!(eqv a0 b0 && eqv a1 b1 && eqv a2 b2 && eqv a3 b3))) w:=by
  simp only [Sem.run_bind,run_eqGuard_agg _ _ _ _ _ _ _ Xln,Result.andThen_ok,run_neq_struct,run_equalIn_agg _ _ _ _ _ Xkd XnI,XrO,Op.eqFields]
  by_cases h0:a0=b0
  case neg =>
    have h0':(a0 == b0)=false:=by simp [h0]
    rw [show (eqv a0 b0 && eqv a1 b1 && eqv a2 b2 && eqv a3 b3)=false from by simp [XaJ h0]]
    go_simp
  subst h0
  by_cases h1:a1=b1
  case neg =>
    have h1':(a1 == b1)=false:=by simp [h1]
    rw [show (eqv a0 a0 && eqv a1 b1 && eqv a2 b2 && eqv a3 b3)=false from by simp [XaJ h1]]
    go_simp
  subst h1
  by_cases h2:a2=b2
  case neg =>
    have h2':(a2.toList == b2.toList)=false:=by rw [Xee];exact XaJ h2
    rw [show (eqv a0 a0 && eqv a1 a1 && eqv a2 b2 && eqv a3 b3)=false from by simp [XaJ h2]]
    go_simp
  subst h2
  by_cases h3:a3=b3
  case neg =>
    have h3':(a3 == b3)=false:=by simp [h3]
    rw [show (eqv a0 a0 && eqv a1 a1 && eqv a2 a2 && eqv a3 b3)=false from by simp [XaJ h3]]
    go_simp
  subst h3
  simp only [Xc0,Bool.and_self]
  go_simp
theorem Xl7 {o:Oper} {E:Env} {H:Xi} {ty:TypeId} {x y:Operand} {a b:Level} (ho:o.op=.binOp .neq 127 x y ty) (hx:E.ev x=some (.agg (Xax a))) (hy:E.ev y=some (.agg (Xax b))):OpV Tryz.prog o E H (.v (.bool (!(eqv a b)))):=by
  rw [Xp4]
  exact X7 ho hx hy rfl rfl (fun w=>Xpm _ _ _ _ _ _ _ _ _ _ w) rfl
theorem XgN (x:Level):(Xax x).length=4:=rfl
set_option maxHeartbeats 4000000 in
theorem XlL (F G:List Level):Iso Tryz.prog 57 [XaE Xax 4 F,XaE Xax 4 G] (fun p=>p=B (eqv F G)):=by
  refine Xbg 0 rfl Tryz.func57 (by kernel_rfl) (by kernel_rfl) fun hF=>?_
  refine Xbg 1 rfl Tryz.func57 (by kernel_rfl) (by kernel_rfl) fun hG0=>?_
  have hG:=Xd
  refine Xb Tryz.func57 rfl rfl rfl ?_
  by_cases hl:F.length=G.length
  · repeat(first|refine Zes ?_)
    refine Xg (S:=Nat) (fun i=>[(0,XaE Xax 4 F),(1,XaE Xax 4 G),(12,I F.length),(13,I i)]) (fun i _=>i≤F.length∧eqv F G=eqv (F.drop i) (G.drop i)) (fun i=>F.length - i) 0
      (.cons rfl (.cons rfl (.cons rfl (.cons rfl (.nil _))))) ⟨by omega,rfl⟩ ?_
    rintro i H ⟨hi,he⟩
    have hG:=Has.nil H
    by_cases hil:i < F.length
    · obtain ⟨f,hf⟩:∃ x,F[i]?=some x:=⟨_,List.getElem?_eq_getElem hil⟩
      obtain ⟨g,hg⟩:∃ x,G[i]?=some x:=⟨_,List.getElem?_eq_getElem (by omega)⟩
      rw [Xbz hf hg] at he
      repeat(first|refine Zes ?_)
      refine ZD ?_
      repeat(first|refine Y_q rfl rfl rfl (by decide) (Xc (cells:=F.flatMap Xax) rfl rfl rfl (by omega) (by exact Xp XgN F i f hf)) ?_|refine Y_q rfl rfl rfl (by decide) (Xc (cells:=G.flatMap Xax) rfl rfl rfl (by omega) (by exact Xp XgN G i g hg)) ?_|refine Y_q rfl rfl rfl (by decide) (Xl7 (a:=f) (b:=g) rfl rfl rfl) ?_|refine Zeu ?_)
      cases hq:eqv f g with
      | true =>
        have hq':(!eqv f g)=false:=by rw [hq];rfl
        rw [hq,Bool.true_and] at he
        repeat(first|refine Zes ?_)
        exact ZaY
      | false =>
        have hq':(!eqv f g)=true:=by rw [hq];rfl
        rw [hq,Bool.false_and] at he
        repeat(first|refine Zes ?_)
        rw [he]
        exact ZB
    · have e:i=F.length:=by omega
      rw [Xcs e hl] at he
      subst e
      repeat(first|refine Zes ?_)
      rw [he]
      exact ZB
  · rw [Xcr hl]
    repeat(first|refine Zes ?_)
    exact ZB
theorem XoS:Tryz.prog.eqGuardType Tryz.prog.depth 133=false:=by kernel_rfl
theorem Xrg:Tryz.prog.stoodInHeld 133=false:=by kernel_rfl
theorem Xns:Tryz.prog.underlying 133=some (.struct (Tryz.prog.fieldsOf 133)):=by kernel_rfl
theorem Xyu:(Tryz.prog.fieldsOf 133).toList=[{ name:= "Id",type:=3,offset:=0,embedded:=false,tag:= "",pkgPath:= "",byteOffset:=0 },{ name:= "Author",type:=9,offset:=1,embedded:=false,tag:= "",pkgPath:= "",byteOffset:=8 },{ name:= "Time",type:=3,offset:=2,embedded:=false,tag:= "",pkgPath:= "",byteOffset:=24 }]:=by kernel_rfl
theorem Xun (a0 b0:Int) (a1 b1:ByteArray) (a2 b2:Int) (x y:Operand) (w:World):(do eqGuard .neq 133 x y (.agg #[.int .i64 a0,.string a1,.int .i64 a2]) (.agg #[.int .i64 b0,.string b1,.int .i64 b2]);binOp .neq 133 (.agg #[.int .i64 a0,.string a1,.int .i64 a2]) (.agg #[.int .i64 b0,.string b1,.int .i64 b2]):Sem Value).run Tryz.prog w=.ok (.bool (!(eqv a0 b0 && eqv a1 b1 && eqv a2 b2))) w:=by
  simp only [Sem.run_bind,run_eqGuard_agg _ _ _ _ _ _ _ XoS,Result.andThen_ok,run_neq_struct,run_equalIn_agg _ _ _ _ _ Xns Xrg,Xyu,Op.eqFields]
  by_cases h0:a0=b0
  case neg =>
    have h0':(a0 == b0)=false:=by simp [h0]
    rw [show (eqv a0 b0 && eqv a1 b1 && eqv a2 b2)=false from by simp [XaJ h0]]
    go_simp
  subst h0
  by_cases h1:a1=b1
  case neg =>
    have h1':(a1.toList == b1.toList)=false:=by rw [Xee];exact XaJ h1
    rw [show (eqv a0 a0 && eqv a1 b1 && eqv a2 b2)=false from by simp [XaJ h1]]
    go_simp
  subst h1
  by_cases h2:a2=b2
  case neg =>
    have h2':(a2 == b2)=false:=by simp [h2]
    rw [show (eqv a0 a0 && eqv a1 a1 && eqv a2 b2)=false from by simp [XaJ h2]]
    go_simp
  subst h2
  simp only [Xc0,Bool.and_self]
  go_simp
theorem XqA {o:Oper} {E:Env} {H:Xi} {ty:TypeId} {x y:Operand} {a b:Rev} (ho:o.op=.binOp .neq 133 x y ty) (hx:E.ev x=some (.agg (Xco a))) (hy:E.ev y=some (.agg (Xco b))):OpV Tryz.prog o E H (.v (.bool (!(eqv a b)))):=by
  rw [Xwv]
  exact X7 ho hx hy rfl rfl (fun w=>Xun _ _ _ _ _ _ _ _ w) rfl
theorem XoR (x:Rev):(Xco x).length=3:=rfl
set_option maxHeartbeats 4000000 in
theorem Xp7 (F G:List Rev):Iso Tryz.prog 60 [XaE Xco 3 F,XaE Xco 3 G] (fun p=>p=B (eqv F G)):=by
  refine Xbg 0 rfl Tryz.func60 (by kernel_rfl) (by kernel_rfl) fun hF=>?_
  refine Xbg 1 rfl Tryz.func60 (by kernel_rfl) (by kernel_rfl) fun hG0=>?_
  have hG:=Xd
  refine Xb Tryz.func60 rfl rfl rfl ?_
  by_cases hl:F.length=G.length
  · repeat(first|refine Zes ?_)
    refine Xg (S:=Nat) (fun i=>[(0,XaE Xco 3 F),(1,XaE Xco 3 G),(12,I F.length),(13,I i)]) (fun i _=>i≤F.length∧eqv F G=eqv (F.drop i) (G.drop i)) (fun i=>F.length - i) 0
      (.cons rfl (.cons rfl (.cons rfl (.cons rfl (.nil _))))) ⟨by omega,rfl⟩ ?_
    rintro i H ⟨hi,he⟩
    have hG:=Has.nil H
    by_cases hil:i < F.length
    · obtain ⟨f,hf⟩:∃ x,F[i]?=some x:=⟨_,List.getElem?_eq_getElem hil⟩
      obtain ⟨g,hg⟩:∃ x,G[i]?=some x:=⟨_,List.getElem?_eq_getElem (by omega)⟩
      rw [Xbz hf hg] at he
      repeat(first|refine Zes ?_)
      refine ZD ?_
      repeat(first|refine Y_q rfl rfl rfl (by decide) (Xc (cells:=F.flatMap Xco) rfl rfl rfl (by omega) (by exact Xp XoR F i f hf)) ?_|refine Y_q rfl rfl rfl (by decide) (Xc (cells:=G.flatMap Xco) rfl rfl rfl (by omega) (by exact Xp XoR G i g hg)) ?_|refine Y_q rfl rfl rfl (by decide) (XqA (a:=f) (b:=g) rfl rfl rfl) ?_|refine Zeu ?_)
      cases hq:eqv f g with
      | true =>
        have hq':(!eqv f g)=false:=by rw [hq];rfl
        rw [hq,Bool.true_and] at he
        repeat(first|refine Zes ?_)
        exact ZaY
      | false =>
        have hq':(!eqv f g)=true:=by rw [hq];rfl
        rw [hq,Bool.false_and] at he
        repeat(first|refine Zes ?_)
        rw [he]
        exact ZB
    · have e:i=F.length:=by omega
      rw [Xcs e hl] at he
      subst e
      repeat(first|refine Zes ?_)
      rw [he]
      exact ZB
  · rw [Xcr hl]
    repeat(first|refine Zes ?_)
    exact ZB
theorem Xjj:Tryz.prog.eqGuardType Tryz.prog.depth 138=false:=by kernel_rfl
theorem XkC:Tryz.prog.stoodInHeld 138=false:=by kernel_rfl
theorem XhJ:Tryz.prog.underlying 138=some (.struct (Tryz.prog.fieldsOf 138)):=by kernel_rfl
theorem Xn8:(Tryz.prog.fieldsOf 138).toList=[{ name:= "Id",type:=3,offset:=0,embedded:=false,tag:= "",pkgPath:= "",byteOffset:=0 },{ name:= "Parent",type:=3,offset:=1,embedded:=false,tag:= "",pkgPath:= "",byteOffset:=8 },{ name:= "Author",type:=9,offset:=2,embedded:=false,tag:= "",pkgPath:= "",byteOffset:=16 },{ name:= "Time",type:=3,offset:=3,embedded:=false,tag:= "",pkgPath:= "",byteOffset:=32 },{ name:= "Text",type:=9,offset:=4,embedded:=false,tag:= "",pkgPath:= "",byteOffset:=40 },{ name:= "Done",type:=4,offset:=5,embedded:=false,tag:= "",pkgPath:= "",byteOffset:=56 }]:=by kernel_rfl
theorem XlQ (a0 b0:Int) (a1 b1:Int) (a2 b2:ByteArray) (a3 b3:Int) (a4 b4:ByteArray) (a5 b5:Bool) (x y:Operand) (w:World):(do eqGuard .neq 138 x y (.agg #[.int .i64 a0,.int .i64 a1,.string a2,.int .i64 a3,.string a4,.bool a5]) (.agg #[.int .i64 b0,.int .i64 b1,.string b2,.int .i64 b3,.string b4,.bool b5]);binOp .neq 138 (.agg #[.int .i64 a0,.int .i64 a1,.string a2,.int .i64 a3,.string a4,.bool a5]) (.agg #[.int .i64 b0,.int .i64 b1,.string b2,.int .i64 b3,.string b4,.bool b5]):Sem Value).run Tryz.prog w=.ok (.bool (!(eqv a0 b0 && eqv a1 b1 && eqv a2 b2 && eqv a3 b3 && eqv a4 b4 && eqv a5 b5))) w:=by
  simp only [Sem.run_bind,run_eqGuard_agg _ _ _ _ _ _ _ Xjj,Result.andThen_ok,run_neq_struct,run_equalIn_agg _ _ _ _ _ XhJ XkC,Xn8,Op.eqFields]
  by_cases h0:a0=b0
  case neg =>
    have h0':(a0 == b0)=false:=by simp [h0]
    rw [show (eqv a0 b0 && eqv a1 b1 && eqv a2 b2 && eqv a3 b3 && eqv a4 b4 && eqv a5 b5)=false from by simp [XaJ h0]]
    go_simp
  subst h0
  by_cases h1:a1=b1
  case neg =>
    have h1':(a1 == b1)=false:=by simp [h1]
    rw [show (eqv a0 a0 && eqv a1 b1 && eqv a2 b2 && eqv a3 b3 && eqv a4 b4 && eqv a5 b5)=false from by simp [XaJ h1]]
    go_simp
  subst h1
  by_cases h2:a2=b2
  case neg =>
    have h2':(a2.toList == b2.toList)=false:=by rw [Xee];exact XaJ h2
    rw [show (eqv a0 a0 && eqv a1 a1 && eqv a2 b2 && eqv a3 b3 && eqv a4 b4 && eqv a5 b5)=false from by simp [XaJ h2]]
    go_simp
  subst h2
  by_cases h3:a3=b3
  case neg =>
    have h3':(a3 == b3)=false:=by simp [h3]
    rw [show (eqv a0 a0 && eqv a1 a1 && eqv a2 a2 && eqv a3 b3 && eqv a4 b4 && eqv a5 b5)=false from by simp [XaJ h3]]
    go_simp
  subst h3
  by_cases h4:a4=b4
  case neg =>
    have h4':(a4.toList == b4.toList)=false:=by rw [Xee];exact XaJ h4
    rw [show (eqv a0 a0 && eqv a1 a1 && eqv a2 a2 && eqv a3 a3 && eqv a4 b4 && eqv a5 b5)=false from by simp [XaJ h4]]
    go_simp
  subst h4
  by_cases h5:a5=b5
  case neg =>
    have h5':(a5 == b5)=false:=by simp [h5]
    rw [show (eqv a0 a0 && eqv a1 a1 && eqv a2 a2 && eqv a3 a3 && eqv a4 a4 && eqv a5 b5)=false from by simp [XaJ h5]]
    go_simp
  subst h5
  simp only [Xc0,Bool.and_self]
  go_simp
theorem XjA {o:Oper} {E:Env} {H:Xi} {ty:TypeId} {x y:Operand} {a b:Comment} (ho:o.op=.binOp .neq 138 x y ty) (hx:E.ev x=some (.agg (Xar a))) (hy:E.ev y=some (.agg (Xar b))):OpV Tryz.prog o E H (.v (.bool (!(eqv a b)))):=by
  rw [XlG]
  exact X7 ho hx hy rfl rfl (fun w=>XlQ _ _ _ _ _ _ _ _ _ _ _ _ _ _ w) rfl
theorem Xhi (x:Comment):(Xar x).length=6:=rfl
set_option maxHeartbeats 4000000 in
theorem Xjf (F G:List Comment):Iso Tryz.prog 63 [XaE Xar 6 F,XaE Xar 6 G] (fun p=>p=B (eqv F G)):=by
  refine Xbg 0 rfl Tryz.func63 (by kernel_rfl) (by kernel_rfl) fun hF=>?_
  refine Xbg 1 rfl Tryz.func63 (by kernel_rfl) (by kernel_rfl) fun hG0=>?_
  have hG:=Xd
  refine Xb Tryz.func63 rfl rfl rfl ?_
  by_cases hl:F.length=G.length
  · repeat(first|refine Zes ?_)
    refine Xg (S:=Nat) (fun i=>[(0,XaE Xar 6 F),(1,XaE Xar 6 G),(12,I F.length),(13,I i)]) (fun i _=>i≤F.length∧eqv F G=eqv (F.drop i) (G.drop i)) (fun i=>F.length - i) 0
      (.cons rfl (.cons rfl (.cons rfl (.cons rfl (.nil _))))) ⟨by omega,rfl⟩ ?_
    rintro i H ⟨hi,he⟩
    have hG:=Has.nil H
    by_cases hil:i < F.length
    · obtain ⟨f,hf⟩:∃ x,F[i]?=some x:=⟨_,List.getElem?_eq_getElem hil⟩
      obtain ⟨g,hg⟩:∃ x,G[i]?=some x:=⟨_,List.getElem?_eq_getElem (by omega)⟩
      rw [Xbz hf hg] at he
      repeat(first|refine Zes ?_)
      refine ZD ?_
      repeat(first|refine Y_q rfl rfl rfl (by decide) (Xc (cells:=F.flatMap Xar) rfl rfl rfl (by omega) (by exact Xp Xhi F i f hf)) ?_|refine Y_q rfl rfl rfl (by decide) (Xc (cells:=G.flatMap Xar) rfl rfl rfl (by omega) (by exact Xp Xhi G i g hg)) ?_|refine Y_q rfl rfl rfl (by decide) (XjA (a:=f) (b:=g) rfl rfl rfl) ?_|refine Zeu ?_)
      cases hq:eqv f g with
      | true =>
        have hq':(!eqv f g)=false:=by rw [hq];rfl
        rw [hq,Bool.true_and] at he
        repeat(first|refine Zes ?_)
        exact ZaY
      | false =>
        have hq':(!eqv f g)=true:=by rw [hq];rfl
        rw [hq,Bool.false_and] at he
        repeat(first|refine Zes ?_)
        rw [he]
        exact ZB
    · have e:i=F.length:=by omega
      rw [Xcs e hl] at he
      subst e
      repeat(first|refine Zes ?_)
      rw [he]
      exact ZB
  · rw [Xcr hl]
    repeat(first|refine Zes ?_)
    exact ZB
theorem Xoy:Tryz.prog.eqGuardType Tryz.prog.depth 141=false:=by kernel_rfl
theorem XqW:Tryz.prog.stoodInHeld 141=false:=by kernel_rfl
theorem Xnc:Tryz.prog.underlying 141=some (.struct (Tryz.prog.fieldsOf 141)):=by kernel_rfl
theorem Xxj:(Tryz.prog.fieldsOf 141).toList=[{ name:= "Name",type:=9,offset:=0,embedded:=false,tag:= "",pkgPath:= "",byteOffset:=0 },{ name:= "Value",type:=9,offset:=1,embedded:=false,tag:= "",pkgPath:= "",byteOffset:=16 }]:=by kernel_rfl
theorem Xty (a0 b0:ByteArray) (a1 b1:ByteArray) (x y:Operand) (w:World):(do eqGuard .neq 141 x y (.agg #[.string a0,.string a1]) (.agg #[.string b0,.string b1]);binOp .neq 141 (.agg #[.string a0,.string a1]) (.agg #[.string b0,.string b1]):Sem Value).run Tryz.prog w=.ok (.bool (!(eqv a0 b0 && eqv a1 b1))) w:=by
  simp only [Sem.run_bind,run_eqGuard_agg _ _ _ _ _ _ _ Xoy,Result.andThen_ok,run_neq_struct,run_equalIn_agg _ _ _ _ _ Xnc XqW,Xxj,Op.eqFields]
  by_cases h0:a0=b0
  case neg =>
    have h0':(a0.toList == b0.toList)=false:=by rw [Xee];exact XaJ h0
    rw [show (eqv a0 b0 && eqv a1 b1)=false from by simp [XaJ h0]]
    go_simp
  subst h0
  by_cases h1:a1=b1
  case neg =>
    have h1':(a1.toList == b1.toList)=false:=by rw [Xee];exact XaJ h1
    rw [show (eqv a0 a0 && eqv a1 b1)=false from by simp [XaJ h1]]
    go_simp
  subst h1
  simp only [Xc0,Bool.and_self]
  go_simp
theorem Xqy {o:Oper} {E:Env} {H:Xi} {ty:TypeId} {x y:Operand} {a b:Var} (ho:o.op=.binOp .neq 141 x y ty) (hx:E.ev x=some (.agg (Xc1 a))) (hy:E.ev y=some (.agg (Xc1 b))):OpV Tryz.prog o E H (.v (.bool (!(eqv a b)))):=by
  rw [Xwt]
  exact X7 ho hx hy rfl rfl (fun w=>Xty _ _ _ _ _ _ w) rfl
theorem Xox (x:Var):(Xc1 x).length=2:=rfl
set_option maxHeartbeats 4000000 in
theorem Xp5 (F G:List Var):Iso Tryz.prog 64 [XaE Xc1 2 F,XaE Xc1 2 G] (fun p=>p=B (eqv F G)):=by
  refine Xbg 0 rfl Tryz.func64 (by kernel_rfl) (by kernel_rfl) fun hF=>?_
  refine Xbg 1 rfl Tryz.func64 (by kernel_rfl) (by kernel_rfl) fun hG0=>?_
  have hG:=Xd
  refine Xb Tryz.func64 rfl rfl rfl ?_
  by_cases hl:F.length=G.length
  · repeat(first|refine Zes ?_)
    refine Xg (S:=Nat) (fun i=>[(0,XaE Xc1 2 F),(1,XaE Xc1 2 G),(12,I F.length),(13,I i)]) (fun i _=>i≤F.length∧eqv F G=eqv (F.drop i) (G.drop i)) (fun i=>F.length - i) 0
      (.cons rfl (.cons rfl (.cons rfl (.cons rfl (.nil _))))) ⟨by omega,rfl⟩ ?_
    rintro i H ⟨hi,he⟩
    have hG:=Has.nil H
    by_cases hil:i < F.length
    · obtain ⟨f,hf⟩:∃ x,F[i]?=some x:=⟨_,List.getElem?_eq_getElem hil⟩
      obtain ⟨g,hg⟩:∃ x,G[i]?=some x:=⟨_,List.getElem?_eq_getElem (by omega)⟩
      rw [Xbz hf hg] at he
      repeat(first|refine Zes ?_)
      refine ZD ?_
      repeat(first|refine Y_q rfl rfl rfl (by decide) (Xc (cells:=F.flatMap Xc1) rfl rfl rfl (by omega) (by exact Xp Xox F i f hf)) ?_|refine Y_q rfl rfl rfl (by decide) (Xc (cells:=G.flatMap Xc1) rfl rfl rfl (by omega) (by exact Xp Xox G i g hg)) ?_|refine Y_q rfl rfl rfl (by decide) (Xqy (a:=f) (b:=g) rfl rfl rfl) ?_|refine Zeu ?_)
      cases hq:eqv f g with
      | true =>
        have hq':(!eqv f g)=false:=by rw [hq];rfl
        rw [hq,Bool.true_and] at he
        repeat(first|refine Zes ?_)
        exact ZaY
      | false =>
        have hq':(!eqv f g)=true:=by rw [hq];rfl
        rw [hq,Bool.false_and] at he
        repeat(first|refine Zes ?_)
        rw [he]
        exact ZB
    · have e:i=F.length:=by omega
      rw [Xcs e hl] at he
      subst e
      repeat(first|refine Zes ?_)
      rw [he]
      exact ZB
  · rw [Xcr hl]
    repeat(first|refine Zes ?_)
    exact ZB
end Go.Proofs.YtlcphjcpoinolaaGreat
namespace Go.Proofs.YtlcphjcpoinolaaGreat
open Go.RowKit Go.Th
set_option maxRecDepth 20000
set_option maxHeartbeats 8000000 in
theorem Xez (x y:Head):Iso Tryz.prog 59 [.agg (XL x),.agg (XL y)] (fun p=>p=B (eqv x y)):=by
  have hG:=Xd
  refine Xb Tryz.func59 rfl rfl rfl ?_
  repeat(first|refine Zev ?_|(refine Xr rfl rfl rfl rfl rfl rfl (by decide) (Xku _ _) (TreeL.cons (XX _) (TreeL.cons (XX _) TreeL.nil)) ?_;rintro _ rfl)|(refine ZH ?_;intro id G hG))
  generalize hb0:eqv x.props y.props=b0
  repeat(first|refine XcF (fun hb=>by subst hb;exact Iso.K rfl rfl rfl rfl (Xr8 _ _) (TreeL.cons (XbJ _) (TreeL.cons (XbJ _) TreeL.nil))) rfl rfl rfl rfl rfl (by decide) ?_|refine XcF (fun hb=>by subst hb;exact Iso.K rfl rfl rfl rfl (Xp8 _ _) (TreeL.cons (XbI _) (TreeL.cons (XbI _) TreeL.nil))) rfl rfl rfl rfl rfl (by decide) ?_|refine Zew ?_|(refine Za2 ?_;intro bv hbv))
  repeat(first|refine Zev ?_)
  subst_vars
  refine ZaK ?_
  rw [Xr6];simp only [Xg9];rfl
end Go.Proofs.YtlcphjcpoinolaaGreat
