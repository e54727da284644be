/- Part of the proof: the walk over the program and its laws: Eq Ef. -/
import Derived.Test.YtlcphjcpoinolaaGreatP0
import Derived.Test.YtlcphjcpoinolaaGreatP12
set_option linter.unusedVariables false
namespace Go.Proofs.YtlcphjcpoinolaaGreat
open Go.RowKit Go.Th
set_option maxRecDepth 20000
theorem Xpy:Tryz.prog.eqGuardType Tryz.prog.depth 183=false:=by kernel_rfl
theorem XrM:Tryz.prog.stoodInHeld 183=false:=by kernel_rfl
theorem Xn6:Tryz.prog.underlying 183=some (.struct (Tryz.prog.fieldsOf 183)):=by kernel_rfl
theorem Xyy:(Tryz.prog.fieldsOf 183).toList=[{ name:= "Key",type:=3,offset:=0,embedded:=false,tag:= "",pkgPath:= "",byteOffset:=0 },{ name:= "Value",type:=3,offset:=1,embedded:=false,tag:= "",pkgPath:= "",byteOffset:=8 }]:=by kernel_rfl
theorem XuC (a0 b0:Int) (a1 b1:Int) (x y:Operand) (w:World):(do eqGuard .neq 183 x y (.agg #[.int .i64 a0,.int .i64 a1]) (.agg #[.int .i64 b0,.int .i64 b1]);binOp .neq 183 (.agg #[.int .i64 a0,.int .i64 a1]) (.agg #[.int .i64 b0,.int .i64 b1]):Sem Value).run Tryz.prog w=.ok (.bool (!(eqv a0 b0 && eqv a1 b1))) w:=by
  simp only [Sem.run_bind,run_eqGuard_agg _ _ _ _ _ _ _ Xpy,Result.andThen_ok,run_neq_struct,run_equalIn_agg _ _ _ _ _ Xn6 XrM,Xyy,Op.eqFields]
  by_cases h0:a0=b0
  case neg =>
    have h0':(a0 == b0)=false:=by simp [h0]
    rw [show (eqv a0 b0 && eqv a1 b1)=false from by simp [XaC h0]]
    go_simp
  subst h0
  by_cases h1:a1=b1
  case neg =>
    have h1':(a1 == b1)=false:=by simp [h1]
    rw [show (eqv a0 a0 && eqv a1 b1)=false from by simp [XaC h1]]
    go_simp
  subst h1
  simp only [XbA,Bool.and_self]
  go_simp
theorem XqY {o:Oper} {E:Env} {H:Xh} {ty:TypeId} {x y:Operand} {a b:Prp} (ho:o.op=.binOp .neq 183 x y ty) (hx:E.ev x=some (.agg (Xa1 a))) (hy:E.ev y=some (.agg (Xa1 b))):OpV Tryz.prog o E H (.v (.bool (!(eqv a b)))):=by
  rw [Xww]
  exact Xab ho hx hy rfl rfl (fun w=>XuC _ _ _ _ _ _ w) rfl
theorem Xpx (x:Prp):(Xa1 x).length=2:=rfl
set_option maxHeartbeats 4000000 in
theorem XkM (F G:List Prp):Iso Tryz.prog 128 [XaK Xa1 2 F,XaK Xa1 2 G] (fun p=>p=B (eqv F G)):=by
  refine Xbk 0 rfl Tryz.func128 (by kernel_rfl) (by kernel_rfl) fun hF=>?_
  refine Xbk 1 rfl Tryz.func128 (by kernel_rfl) (by kernel_rfl) fun hG0=>?_
  have hG:=Xc
  refine Xb Tryz.func128 rfl rfl rfl ?_
  by_cases hl:F.length=G.length
  · repeat(first|refine Zd1 ?_)
    refine Xg (S:=Nat) (fun i=>[(0,XaK Xa1 2 F),(1,XaK Xa1 2 G),(12,I F.length),(13,I i)]) (fun i _=>i≤F.length∧eqv F G=eqv (F.drop i) (G.drop i)) (fun i=>F.length - i) 0
      (.cons rfl (.cons rfl (.cons rfl (.cons rfl (.nil _))))) ⟨by omega,rfl⟩ ?_
    rintro i H ⟨hi,he⟩
    have hG:=Has.nil H
    by_cases hil:i < F.length
    · obtain ⟨f,hf⟩:∃ x,F[i]?=some x:=⟨_,List.getElem?_eq_getElem hil⟩
      obtain ⟨g,hg⟩:∃ x,G[i]?=some x:=⟨_,List.getElem?_eq_getElem (by omega)⟩
      rw [XbB hf hg] at he
      repeat(first|refine Zd1 ?_)
      refine Zz ?_
      repeat(first|refine Y_q rfl rfl rfl (by decide) (Xf (cells:=F.flatMap Xa1) rfl rfl rfl (by omega) (by exact Xu Xpx F i f hf)) ?_|refine Y_q rfl rfl rfl (by decide) (Xf (cells:=G.flatMap Xa1) rfl rfl rfl (by omega) (by exact Xu Xpx G i g hg)) ?_|refine Y_q rfl rfl rfl (by decide) (XqY (a:=f) (b:=g) rfl rfl rfl) ?_|refine Zd2 ?_)
      cases hq:eqv f g with
      | true =>
        have hq':(!eqv f g)=false:=by rw [hq];rfl
        rw [hq,Bool.true_and] at he
        repeat(first|refine Zd1 ?_)
        exact ZaV
      | false =>
        have hq':(!eqv f g)=true:=by rw [hq];rfl
        rw [hq,Bool.false_and] at he
        repeat(first|refine Zd1 ?_)
        rw [he]
        exact ZE
    · have e:i=F.length:=by omega
      rw [Xcs e hl] at he
      subst e
      repeat(first|refine Zd1 ?_)
      rw [he]
      exact ZE
  · rw [Xcr hl]
    repeat(first|refine Zd1 ?_)
    exact ZE
theorem Xsr:Tryz.prog.eqGuardType Tryz.prog.depth 199=false:=by kernel_rfl
theorem XwE:Tryz.prog.stoodInHeld 199=false:=by kernel_rfl
theorem XqE:Tryz.prog.underlying 199=some (.struct (Tryz.prog.fieldsOf 199)):=by kernel_rfl
theorem XBG:(Tryz.prog.fieldsOf 199).toList=[{ name:= "Rev",type:=3,offset:=0,embedded:=false,tag:= "",pkgPath:= "",byteOffset:=0 },{ name:= "Move",type:=3,offset:=1,embedded:=false,tag:= "",pkgPath:= "",byteOffset:=8 }]:=by kernel_rfl
theorem XAI (a0 b0:Int) (a1 b1:Int) (x y:Operand) (w:World):(do eqGuard .neq 199 x y (.agg #[.int .i64 a0,.int .i64 a1]) (.agg #[.int .i64 b0,.int .i64 b1]);binOp .neq 199 (.agg #[.int .i64 a0,.int .i64 a1]) (.agg #[.int .i64 b0,.int .i64 b1]):Sem Value).run Tryz.prog w=.ok (.bool (!(eqv a0 b0 && eqv a1 b1))) w:=by
  simp only [Sem.run_bind,run_eqGuard_agg _ _ _ _ _ _ _ Xsr,Result.andThen_ok,run_neq_struct,run_equalIn_agg _ _ _ _ _ XqE XwE,XBG,Op.eqFields]
  by_cases h0:a0=b0
  case neg =>
    have h0':(a0 == b0)=false:=by simp [h0]
    rw [show (eqv a0 b0 && eqv a1 b1)=false from by simp [XaC h0]]
    go_simp
  subst h0
  by_cases h1:a1=b1
  case neg =>
    have h1':(a1 == b1)=false:=by simp [h1]
    rw [show (eqv a0 a0 && eqv a1 b1)=false from by simp [XaC h1]]
    go_simp
  subst h1
  simp only [XbA,Bool.and_self]
  go_simp
theorem XsR {o:Oper} {E:Env} {H:Xh} {ty:TypeId} {x y:Operand} {a b:Dl} (ho:o.op=.binOp .neq 199 x y ty) (hx:E.ev x=some (.agg (Xdc a))) (hy:E.ev y=some (.agg (Xdc b))):OpV Tryz.prog o E H (.v (.bool (!(eqv a b)))):=by
  rw [XAE]
  exact Xab ho hx hy rfl rfl (fun w=>XAI _ _ _ _ _ _ w) rfl
theorem Xts (x:Dl):(Xdc x).length=2:=rfl
set_option maxHeartbeats 4000000 in
theorem Xsm (F G:List Dl):Iso Tryz.prog 129 [XaK Xdc 2 F,XaK Xdc 2 G] (fun p=>p=B (eqv F G)):=by
  refine Xbk 0 rfl Tryz.func129 (by kernel_rfl) (by kernel_rfl) fun hF=>?_
  refine Xbk 1 rfl Tryz.func129 (by kernel_rfl) (by kernel_rfl) fun hG0=>?_
  have hG:=Xc
  refine Xb Tryz.func129 rfl rfl rfl ?_
  by_cases hl:F.length=G.length
  · repeat(first|refine Zd1 ?_)
    refine Xg (S:=Nat) (fun i=>[(0,XaK Xdc 2 F),(1,XaK Xdc 2 G),(12,I F.length),(13,I i)]) (fun i _=>i≤F.length∧eqv F G=eqv (F.drop i) (G.drop i)) (fun i=>F.length - i) 0
      (.cons rfl (.cons rfl (.cons rfl (.cons rfl (.nil _))))) ⟨by omega,rfl⟩ ?_
    rintro i H ⟨hi,he⟩
    have hG:=Has.nil H
    by_cases hil:i < F.length
    · obtain ⟨f,hf⟩:∃ x,F[i]?=some x:=⟨_,List.getElem?_eq_getElem hil⟩
      obtain ⟨g,hg⟩:∃ x,G[i]?=some x:=⟨_,List.getElem?_eq_getElem (by omega)⟩
      rw [XbB hf hg] at he
      repeat(first|refine Zd1 ?_)
      refine Zz ?_
      repeat(first|refine Y_q rfl rfl rfl (by decide) (Xf (cells:=F.flatMap Xdc) rfl rfl rfl (by omega) (by exact Xu Xts F i f hf)) ?_|refine Y_q rfl rfl rfl (by decide) (Xf (cells:=G.flatMap Xdc) rfl rfl rfl (by omega) (by exact Xu Xts G i g hg)) ?_|refine Y_q rfl rfl rfl (by decide) (XsR (a:=f) (b:=g) rfl rfl rfl) ?_|refine Zd2 ?_)
      cases hq:eqv f g with
      | true =>
        have hq':(!eqv f g)=false:=by rw [hq];rfl
        rw [hq,Bool.true_and] at he
        repeat(first|refine Zd1 ?_)
        exact ZaV
      | false =>
        have hq':(!eqv f g)=true:=by rw [hq];rfl
        rw [hq,Bool.false_and] at he
        repeat(first|refine Zd1 ?_)
        rw [he]
        exact ZE
    · have e:i=F.length:=by omega
      rw [Xcs e hl] at he
      subst e
      repeat(first|refine Zd1 ?_)
      rw [he]
      exact ZE
  · rw [Xcr hl]
    repeat(first|refine Zd1 ?_)
    exact ZE
theorem XpM:Tryz.prog.eqGuardType Tryz.prog.depth 203=false:=by kernel_rfl
theorem XrY:Tryz.prog.stoodInHeld 203=false:=by kernel_rfl
theorem Xoc:Tryz.prog.underlying 203=some (.struct (Tryz.prog.fieldsOf 203)):=by kernel_rfl
theorem XyL:(Tryz.prog.fieldsOf 203).toList=[{ name:= "Rev",type:=3,offset:=0,embedded:=false,tag:= "",pkgPath:= "",byteOffset:=0 },{ name:= "Key",type:=3,offset:=1,embedded:=false,tag:= "",pkgPath:= "",byteOffset:=8 },{ name:= "Before",type:=3,offset:=2,embedded:=false,tag:= "",pkgPath:= "",byteOffset:=16 },{ name:= "Had",type:=4,offset:=3,embedded:=false,tag:= "",pkgPath:= "",byteOffset:=24 }]:=by kernel_rfl
theorem XuO (a0 b0:Int) (a1 b1:Int) (a2 b2:Int) (a3 b3:Bool) (x y:Operand) (w:World):(do eqGuard .neq 203 x y (.agg #[.int .i64 a0,.int .i64 a1,.int .i64 a2,.bool a3]) (.agg #[.int .i64 b0,.int .i64 b1,.int .i64 b2,.bool b3]);binOp .neq 203 (.agg #[.int .i64 a0,.int .i64 a1,.int .i64 a2,.bool a3]) (.agg #[.int .i64 b0,.int .i64 b1,.int .i64 b2,.bool b3]):Sem Value).run Tryz.prog w=.ok (.bool (!(eqv a0 b0 && eqv a1 b1 && eqv a2 b2 && eqv a3 b3))) w:=by
  simp only [Sem.run_bind,run_eqGuard_agg _ _ _ _ _ _ _ XpM,Result.andThen_ok,run_neq_struct,run_equalIn_agg _ _ _ _ _ Xoc XrY,XyL,Op.eqFields]
  by_cases h0:a0=b0
  case neg =>
    have h0':(a0 == b0)=false:=by simp [h0]
    rw [show (eqv a0 b0 && eqv a1 b1 && eqv a2 b2 && eqv a3 b3)=false from by simp [XaC h0]]
    go_simp
  subst h0
  by_cases h1:a1=b1
  case neg =>
    have h1':(a1 == b1)=false:=by simp [h1]
    rw [show (eqv a0 a0 && eqv a1 b1 && eqv a2 b2 && eqv a3 b3)=false from by simp [XaC h1]]
    go_simp
  subst h1
  by_cases h2:a2=b2
  case neg =>
    have h2':(a2 == b2)=false:=by simp [h2]
    rw [show (eqv a0 a0 && eqv a1 a1 && eqv a2 b2 && eqv a3 b3)=false from by simp [XaC h2]]
    go_simp
  subst h2
  by_cases h3:a3=b3
  case neg =>
    have h3':(a3 == b3)=false:=by simp [h3]
    rw [show (eqv a0 a0 && eqv a1 a1 && eqv a2 a2 && eqv a3 b3)=false from by simp [XaC h3]]
    go_simp
  subst h3
  simp only [XbA,Bool.and_self]
  go_simp
theorem Xq0 {o:Oper} {E:Env} {H:Xh} {ty:TypeId} {x y:Operand} {a b:Lyr} (ho:o.op=.binOp .neq 203 x y ty) (hx:E.ev x=some (.agg (XaD a))) (hy:E.ev y=some (.agg (XaD b))):OpV Tryz.prog o E H (.v (.bool (!(eqv a b)))):=by
  rw [Xwx]
  exact Xab ho hx hy rfl rfl (fun w=>XuO _ _ _ _ _ _ _ _ _ _ w) rfl
theorem XpL (x:Lyr):(XaD x).length=4:=rfl
set_option maxHeartbeats 4000000 in
theorem Xqv (F G:List Lyr):Iso Tryz.prog 130 [XaK XaD 4 F,XaK XaD 4 G] (fun p=>p=B (eqv F G)):=by
  refine Xbk 0 rfl Tryz.func130 (by kernel_rfl) (by kernel_rfl) fun hF=>?_
  refine Xbk 1 rfl Tryz.func130 (by kernel_rfl) (by kernel_rfl) fun hG0=>?_
  have hG:=Xc
  refine Xb Tryz.func130 rfl rfl rfl ?_
  by_cases hl:F.length=G.length
  · repeat(first|refine Zd1 ?_)
    refine Xg (S:=Nat) (fun i=>[(0,XaK XaD 4 F),(1,XaK XaD 4 G),(12,I F.length),(13,I i)]) (fun i _=>i≤F.length∧eqv F G=eqv (F.drop i) (G.drop i)) (fun i=>F.length - i) 0
      (.cons rfl (.cons rfl (.cons rfl (.cons rfl (.nil _))))) ⟨by omega,rfl⟩ ?_
    rintro i H ⟨hi,he⟩
    have hG:=Has.nil H
    by_cases hil:i < F.length
    · obtain ⟨f,hf⟩:∃ x,F[i]?=some x:=⟨_,List.getElem?_eq_getElem hil⟩
      obtain ⟨g,hg⟩:∃ x,G[i]?=some x:=⟨_,List.getElem?_eq_getElem (by omega)⟩
      rw [XbB hf hg] at he
      repeat(first|refine Zd1 ?_)
      refine Zz ?_
      repeat(first|refine Y_q rfl rfl rfl (by decide) (Xf (cells:=F.flatMap XaD) rfl rfl rfl (by omega) (by exact Xu XpL F i f hf)) ?_|refine Y_q rfl rfl rfl (by decide) (Xf (cells:=G.flatMap XaD) rfl rfl rfl (by omega) (by exact Xu XpL G i g hg)) ?_|refine Y_q rfl rfl rfl (by decide) (Xq0 (a:=f) (b:=g) rfl rfl rfl) ?_|refine Zd2 ?_)
      cases hq:eqv f g with
      | true =>
        have hq':(!eqv f g)=false:=by rw [hq];rfl
        rw [hq,Bool.true_and] at he
        repeat(first|refine Zd1 ?_)
        exact ZaV
      | false =>
        have hq':(!eqv f g)=true:=by rw [hq];rfl
        rw [hq,Bool.false_and] at he
        repeat(first|refine Zd1 ?_)
        rw [he]
        exact ZE
    · have e:i=F.length:=by omega
      rw [Xcs e hl] at he
      subst e
      repeat(first|refine Zd1 ?_)
      rw [he]
      exact ZE
  · rw [Xcr hl]
    repeat(first|refine Zd1 ?_)
    exact ZE
theorem XlO:Tryz.prog.eqGuardType Tryz.prog.depth 127=false:=by kernel_rfl
theorem Xod:Tryz.prog.stoodInHeld 127=false:=by kernel_rfl
theorem Xkr:Tryz.prog.underlying 127=some (.struct (Tryz.prog.fieldsOf 127)):=by kernel_rfl
theorem Xr2:(Tryz.prog.fieldsOf 127).toList=[{ name:= "Format",type:=3,offset:=0,embedded:=false,tag:= "",pkgPath:= "",byteOffset:=0 },{ name:= "Start",type:=3,offset:=1,embedded:=false,tag:= "",pkgPath:= "",byteOffset:=8 },{ name:= "Template",type:=9,offset:=2,embedded:=false,tag:= "",pkgPath:= "",byteOffset:=16 },{ name:= "Restart",type:=3,offset:=3,embedded:=false,tag:= "",pkgPath:= "",byteOffset:=32 }]:=by kernel_rfl
theorem XpO (a0 b0:Int) (a1 b1:Int) (a2 b2:ByteArray) (a3 b3:Int) (x y:Operand) (w:World):(do eqGuard .neq 127 x y (.agg #[.int .i64 a0,.int .i64 a1,.string a2,.int .i64 a3]) (.agg #[.int .i64 b0,.int .i64 b1,.string b2,.int .i64 b3]);binOp .neq 127 (.agg #[.int .i64 a0,.int .i64 a1,.string a2,.int .i64 a3]) (.agg #[.int .i64 b0,.int .i64 b1,.string b2,.int .i64 b3]):Sem Value).run Tryz.prog w=.ok (.bool (!(eqv a0 b0 && eqv a1 b1 && eqv a2 b2 && eqv a3 b3))) w:=by
  simp only [Sem.run_bind,run_eqGuard_agg _ _ _ _ _ _ _ XlO,Result.andThen_ok,run_neq_struct,run_equalIn_agg _ _ _ _ _ Xkr Xod,Xr2,Op.eqFields]
  by_cases h0:a0=b0
  case neg =>
    have h0':(a0 == b0)=false:=by simp [h0]
    rw [show (eqv a0 b0 && eqv a1 b1 && eqv a2 b2 && eqv a3 b3)=false from by simp [XaC h0]]
    go_simp
  subst h0
  by_cases h1:a1=b1
  case neg =>
    have h1':(a1 == b1)=false:=by simp [h1]
    rw [show (eqv a0 a0 && eqv a1 b1 && eqv a2 b2 && eqv a3 b3)=false from by simp [XaC h1]]
    go_simp
  subst h1
  by_cases h2:a2=b2
  case neg =>
    have h2':(a2.toList == b2.toList)=false:=by rw [Xeq];exact XaC h2
    rw [show (eqv a0 a0 && eqv a1 a1 && eqv a2 b2 && eqv a3 b3)=false from by simp [XaC h2]]
    go_simp
  subst h2
  by_cases h3:a3=b3
  case neg =>
    have h3':(a3 == b3)=false:=by simp [h3]
    rw [show (eqv a0 a0 && eqv a1 a1 && eqv a2 a2 && eqv a3 b3)=false from by simp [XaC h3]]
    go_simp
  subst h3
  simp only [XbA,Bool.and_self]
  go_simp
theorem XmP {o:Oper} {E:Env} {H:Xh} {ty:TypeId} {x y:Operand} {a b:Level} (ho:o.op=.binOp .neq 127 x y ty) (hx:E.ev x=some (.agg (Xbj a))) (hy:E.ev y=some (.agg (Xbj b))):OpV Tryz.prog o E H (.v (.bool (!(eqv a b)))):=by
  rw [Xqr]
  exact Xab ho hx hy rfl rfl (fun w=>XpO _ _ _ _ _ _ _ _ _ _ w) rfl
theorem Xkq (x:Level):(Xbj x).length=4:=rfl
set_option maxHeartbeats 4000000 in
theorem Xme (F G:List Level):Iso Tryz.prog 57 [XaK Xbj 4 F,XaK Xbj 4 G] (fun p=>p=B (eqv F G)):=by
  refine Xbk 0 rfl Tryz.func57 (by kernel_rfl) (by kernel_rfl) fun hF=>?_
  refine Xbk 1 rfl Tryz.func57 (by kernel_rfl) (by kernel_rfl) fun hG0=>?_
  have hG:=Xc
  refine Xb Tryz.func57 rfl rfl rfl ?_
  by_cases hl:F.length=G.length
  · repeat(first|refine Zd1 ?_)
    refine Xg (S:=Nat) (fun i=>[(0,XaK Xbj 4 F),(1,XaK Xbj 4 G),(12,I F.length),(13,I i)]) (fun i _=>i≤F.length∧eqv F G=eqv (F.drop i) (G.drop i)) (fun i=>F.length - i) 0
      (.cons rfl (.cons rfl (.cons rfl (.cons rfl (.nil _))))) ⟨by omega,rfl⟩ ?_
    rintro i H ⟨hi,he⟩
    have hG:=Has.nil H
    by_cases hil:i < F.length
    · obtain ⟨f,hf⟩:∃ x,F[i]?=some x:=⟨_,List.getElem?_eq_getElem hil⟩
      obtain ⟨g,hg⟩:∃ x,G[i]?=some x:=⟨_,List.getElem?_eq_getElem (by omega)⟩
      rw [XbB hf hg] at he
      repeat(first|refine Zd1 ?_)
      refine Zz ?_
      repeat(first|refine Y_q rfl rfl rfl (by decide) (Xf (cells:=F.flatMap Xbj) rfl rfl rfl (by omega) (by exact Xu Xkq F i f hf)) ?_|refine Y_q rfl rfl rfl (by decide) (Xf (cells:=G.flatMap Xbj) rfl rfl rfl (by omega) (by exact Xu Xkq G i g hg)) ?_|refine Y_q rfl rfl rfl (by decide) (XmP (a:=f) (b:=g) rfl rfl rfl) ?_|refine Zd2 ?_)
      cases hq:eqv f g with
      | true =>
        have hq':(!eqv f g)=false:=by rw [hq];rfl
        rw [hq,Bool.true_and] at he
        repeat(first|refine Zd1 ?_)
        exact ZaV
      | false =>
        have hq':(!eqv f g)=true:=by rw [hq];rfl
        rw [hq,Bool.false_and] at he
        repeat(first|refine Zd1 ?_)
        rw [he]
        exact ZE
    · have e:i=F.length:=by omega
      rw [Xcs e hl] at he
      subst e
      repeat(first|refine Zd1 ?_)
      rw [he]
      exact ZE
  · rw [Xcr hl]
    repeat(first|refine Zd1 ?_)
    exact ZE
theorem Xpm:Tryz.prog.eqGuardType Tryz.prog.depth 133=false:=by kernel_rfl
theorem XrB:Tryz.prog.stoodInHeld 133=false:=by kernel_rfl
theorem Xn2:Tryz.prog.underlying 133=some (.struct (Tryz.prog.fieldsOf 133)):=by kernel_rfl
theorem Xyx:(Tryz.prog.fieldsOf 133).toList=[{ name:= "Id",type:=3,offset:=0,embedded:=false,tag:= "",pkgPath:= "",byteOffset:=0 },{ name:= "Author",type:=9,offset:=1,embedded:=false,tag:= "",pkgPath:= "",byteOffset:=8 },{ name:= "Time",type:=3,offset:=2,embedded:=false,tag:= "",pkgPath:= "",byteOffset:=24 }]:=by kernel_rfl
theorem Xuw (a0 b0:Int) (a1 b1:ByteArray) (a2 b2:Int) (x y:Operand) (w:World):(do eqGuard .neq 133 x y (.agg #[.int .i64 a0,.string a1,.int .i64 a2]) (.agg #[.int .i64 b0,.string b1,.int .i64 b2]);binOp .neq 133 (.agg #[.int .i64 a0,.string a1,.int .i64 a2]) (.agg #[.int .i64 b0,.string b1,.int .i64 b2]):Sem Value).run Tryz.prog w=.ok (.bool (!(eqv a0 b0 && eqv a1 b1 && eqv a2 b2))) w:=by
  simp only [Sem.run_bind,run_eqGuard_agg _ _ _ _ _ _ _ Xpm,Result.andThen_ok,run_neq_struct,run_equalIn_agg _ _ _ _ _ Xn2 XrB,Xyx,Op.eqFields]
  by_cases h0:a0=b0
  case neg =>
    have h0':(a0 == b0)=false:=by simp [h0]
    rw [show (eqv a0 b0 && eqv a1 b1 && eqv a2 b2)=false from by simp [XaC h0]]
    go_simp
  subst h0
  by_cases h1:a1=b1
  case neg =>
    have h1':(a1.toList == b1.toList)=false:=by rw [Xeq];exact XaC h1
    rw [show (eqv a0 a0 && eqv a1 b1 && eqv a2 b2)=false from by simp [XaC h1]]
    go_simp
  subst h1
  by_cases h2:a2=b2
  case neg =>
    have h2':(a2 == b2)=false:=by simp [h2]
    rw [show (eqv a0 a0 && eqv a1 a1 && eqv a2 b2)=false from by simp [XaC h2]]
    go_simp
  subst h2
  simp only [XbA,Bool.and_self]
  go_simp
theorem XqW {o:Oper} {E:Env} {H:Xh} {ty:TypeId} {x y:Operand} {a b:Rev} (ho:o.op=.binOp .neq 133 x y ty) (hx:E.ev x=some (.agg (Xcn a))) (hy:E.ev y=some (.agg (Xcn b))):OpV Tryz.prog o E H (.v (.bool (!(eqv a b)))):=by
  rw [Xwv]
  exact Xab ho hx hy rfl rfl (fun w=>Xuw _ _ _ _ _ _ _ _ w) rfl
theorem Xpl (x:Rev):(Xcn x).length=3:=rfl
set_option maxHeartbeats 4000000 in
theorem Xqu (F G:List Rev):Iso Tryz.prog 60 [XaK Xcn 3 F,XaK Xcn 3 G] (fun p=>p=B (eqv F G)):=by
  refine Xbk 0 rfl Tryz.func60 (by kernel_rfl) (by kernel_rfl) fun hF=>?_
  refine Xbk 1 rfl Tryz.func60 (by kernel_rfl) (by kernel_rfl) fun hG0=>?_
  have hG:=Xc
  refine Xb Tryz.func60 rfl rfl rfl ?_
  by_cases hl:F.length=G.length
  · repeat(first|refine Zd1 ?_)
    refine Xg (S:=Nat) (fun i=>[(0,XaK Xcn 3 F),(1,XaK Xcn 3 G),(12,I F.length),(13,I i)]) (fun i _=>i≤F.length∧eqv F G=eqv (F.drop i) (G.drop i)) (fun i=>F.length - i) 0
      (.cons rfl (.cons rfl (.cons rfl (.cons rfl (.nil _))))) ⟨by omega,rfl⟩ ?_
    rintro i H ⟨hi,he⟩
    have hG:=Has.nil H
    by_cases hil:i < F.length
    · obtain ⟨f,hf⟩:∃ x,F[i]?=some x:=⟨_,List.getElem?_eq_getElem hil⟩
      obtain ⟨g,hg⟩:∃ x,G[i]?=some x:=⟨_,List.getElem?_eq_getElem (by omega)⟩
      rw [XbB hf hg] at he
      repeat(first|refine Zd1 ?_)
      refine Zz ?_
      repeat(first|refine Y_q rfl rfl rfl (by decide) (Xf (cells:=F.flatMap Xcn) rfl rfl rfl (by omega) (by exact Xu Xpl F i f hf)) ?_|refine Y_q rfl rfl rfl (by decide) (Xf (cells:=G.flatMap Xcn) rfl rfl rfl (by omega) (by exact Xu Xpl G i g hg)) ?_|refine Y_q rfl rfl rfl (by decide) (XqW (a:=f) (b:=g) rfl rfl rfl) ?_|refine Zd2 ?_)
      cases hq:eqv f g with
      | true =>
        have hq':(!eqv f g)=false:=by rw [hq];rfl
        rw [hq,Bool.true_and] at he
        repeat(first|refine Zd1 ?_)
        exact ZaV
      | false =>
        have hq':(!eqv f g)=true:=by rw [hq];rfl
        rw [hq,Bool.false_and] at he
        repeat(first|refine Zd1 ?_)
        rw [he]
        exact ZE
    · have e:i=F.length:=by omega
      rw [Xcs e hl] at he
      subst e
      repeat(first|refine Zd1 ?_)
      rw [he]
      exact ZE
  · rw [Xcr hl]
    repeat(first|refine Zd1 ?_)
    exact ZE
theorem Xjy:Tryz.prog.eqGuardType Tryz.prog.depth 138=false:=by kernel_rfl
theorem XkX:Tryz.prog.stoodInHeld 138=false:=by kernel_rfl
theorem XhY:Tryz.prog.underlying 138=some (.struct (Tryz.prog.fieldsOf 138)):=by kernel_rfl
theorem XoD:(Tryz.prog.fieldsOf 138).toList=[{ name:= "Id",type:=3,offset:=0,embedded:=false,tag:= "",pkgPath:= "",byteOffset:=0 },{ name:= "Parent",type:=3,offset:=1,embedded:=false,tag:= "",pkgPath:= "",byteOffset:=8 },{ name:= "Author",type:=9,offset:=2,embedded:=false,tag:= "",pkgPath:= "",byteOffset:=16 },{ name:= "Time",type:=3,offset:=3,embedded:=false,tag:= "",pkgPath:= "",byteOffset:=32 },{ name:= "Text",type:=9,offset:=4,embedded:=false,tag:= "",pkgPath:= "",byteOffset:=40 },{ name:= "Done",type:=4,offset:=5,embedded:=false,tag:= "",pkgPath:= "",byteOffset:=56 }]:=by kernel_rfl
theorem Xmm (a0 b0:Int) (a1 b1:Int) (a2 b2:ByteArray) (a3 b3:Int) (a4 b4:ByteArray) (a5 b5:Bool) (x y:Operand) (w:World):(do eqGuard .neq 138 x y (.agg #[.int .i64 a0,.int .i64 a1,.string a2,.int .i64 a3,.string a4,.bool a5]) (.agg #[.int .i64 b0,.int .i64 b1,.string b2,.int .i64 b3,.string b4,.bool b5]);binOp .neq 138 (.agg #[.int .i64 a0,.int .i64 a1,.string a2,.int .i64 a3,.string a4,.bool a5]) (.agg #[.int .i64 b0,.int .i64 b1,.string b2,.int .i64 b3,.string b4,.bool b5]):Sem Value).run Tryz.prog w=.ok (.bool (!(eqv a0 b0 && eqv a1 b1 && eqv a2 b2 && eqv a3 b3 && eqv a4 b4 && eqv a5 b5))) w:=by
  simp only [Sem.run_bind,run_eqGuard_agg _ _ _ _ _ _ _ Xjy,Result.andThen_ok,run_neq_struct,run_equalIn_agg _ _ _ _ _ XhY XkX,XoD,Op.eqFields]
  by_cases h0:a0=b0
  case neg =>
    have h0':(a0 == b0)=false:=by simp [h0]
    rw [show (eqv a0 b0 && eqv a1 b1 && eqv a2 b2 && eqv a3 b3 && eqv a4 b4 && eqv a5 b5)=false from by simp [XaC h0]]
    go_simp
  subst h0
  by_cases h1:a1=b1
  case neg =>
    have h1':(a1 == b1)=false:=by simp [h1]
    rw [show (eqv a0 a0 && eqv a1 b1 && eqv a2 b2 && eqv a3 b3 && eqv a4 b4 && eqv a5 b5)=false from by simp [XaC h1]]
    go_simp
  subst h1
  by_cases h2:a2=b2
  case neg =>
    have h2':(a2.toList == b2.toList)=false:=by rw [Xeq];exact XaC h2
    rw [show (eqv a0 a0 && eqv a1 a1 && eqv a2 b2 && eqv a3 b3 && eqv a4 b4 && eqv a5 b5)=false from by simp [XaC h2]]
    go_simp
  subst h2
  by_cases h3:a3=b3
  case neg =>
    have h3':(a3 == b3)=false:=by simp [h3]
    rw [show (eqv a0 a0 && eqv a1 a1 && eqv a2 a2 && eqv a3 b3 && eqv a4 b4 && eqv a5 b5)=false from by simp [XaC h3]]
    go_simp
  subst h3
  by_cases h4:a4=b4
  case neg =>
    have h4':(a4.toList == b4.toList)=false:=by rw [Xeq];exact XaC h4
    rw [show (eqv a0 a0 && eqv a1 a1 && eqv a2 a2 && eqv a3 a3 && eqv a4 b4 && eqv a5 b5)=false from by simp [XaC h4]]
    go_simp
  subst h4
  by_cases h5:a5=b5
  case neg =>
    have h5':(a5 == b5)=false:=by simp [h5]
    rw [show (eqv a0 a0 && eqv a1 a1 && eqv a2 a2 && eqv a3 a3 && eqv a4 a4 && eqv a5 b5)=false from by simp [XaC h5]]
    go_simp
  subst h5
  simp only [XbA,Bool.and_self]
  go_simp
theorem XjP {o:Oper} {E:Env} {H:Xh} {ty:TypeId} {x y:Operand} {a b:Comment} (ho:o.op=.binOp .neq 138 x y ty) (hx:E.ev x=some (.agg (Xar a))) (hy:E.ev y=some (.agg (Xar b))):OpV Tryz.prog o E H (.v (.bool (!(eqv a b)))):=by
  rw [Xl9]
  exact Xab ho hx hy rfl rfl (fun w=>Xmm _ _ _ _ _ _ _ _ _ _ _ _ _ _ w) rfl
theorem XhB (x:Comment):(Xar x).length=6:=rfl
set_option maxHeartbeats 4000000 in
theorem Xjr (F G:List Comment):Iso Tryz.prog 63 [XaK Xar 6 F,XaK Xar 6 G] (fun p=>p=B (eqv F G)):=by
  refine Xbk 0 rfl Tryz.func63 (by kernel_rfl) (by kernel_rfl) fun hF=>?_
  refine Xbk 1 rfl Tryz.func63 (by kernel_rfl) (by kernel_rfl) fun hG0=>?_
  have hG:=Xc
  refine Xb Tryz.func63 rfl rfl rfl ?_
  by_cases hl:F.length=G.length
  · repeat(first|refine Zd1 ?_)
    refine Xg (S:=Nat) (fun i=>[(0,XaK Xar 6 F),(1,XaK Xar 6 G),(12,I F.length),(13,I i)]) (fun i _=>i≤F.length∧eqv F G=eqv (F.drop i) (G.drop i)) (fun i=>F.length - i) 0
      (.cons rfl (.cons rfl (.cons rfl (.cons rfl (.nil _))))) ⟨by omega,rfl⟩ ?_
    rintro i H ⟨hi,he⟩
    have hG:=Has.nil H
    by_cases hil:i < F.length
    · obtain ⟨f,hf⟩:∃ x,F[i]?=some x:=⟨_,List.getElem?_eq_getElem hil⟩
      obtain ⟨g,hg⟩:∃ x,G[i]?=some x:=⟨_,List.getElem?_eq_getElem (by omega)⟩
      rw [XbB hf hg] at he
      repeat(first|refine Zd1 ?_)
      refine Zz ?_
      repeat(first|refine Y_q rfl rfl rfl (by decide) (Xf (cells:=F.flatMap Xar) rfl rfl rfl (by omega) (by exact Xu XhB F i f hf)) ?_|refine Y_q rfl rfl rfl (by decide) (Xf (cells:=G.flatMap Xar) rfl rfl rfl (by omega) (by exact Xu XhB G i g hg)) ?_|refine Y_q rfl rfl rfl (by decide) (XjP (a:=f) (b:=g) rfl rfl rfl) ?_|refine Zd2 ?_)
      cases hq:eqv f g with
      | true =>
        have hq':(!eqv f g)=false:=by rw [hq];rfl
        rw [hq,Bool.true_and] at he
        repeat(first|refine Zd1 ?_)
        exact ZaV
      | false =>
        have hq':(!eqv f g)=true:=by rw [hq];rfl
        rw [hq,Bool.false_and] at he
        repeat(first|refine Zd1 ?_)
        rw [he]
        exact ZE
    · have e:i=F.length:=by omega
      rw [Xcs e hl] at he
      subst e
      repeat(first|refine Zd1 ?_)
      rw [he]
      exact ZE
  · rw [Xcr hl]
    repeat(first|refine Zd1 ?_)
    exact ZE
theorem Xo0:Tryz.prog.eqGuardType Tryz.prog.depth 141=false:=by kernel_rfl
theorem Xrg:Tryz.prog.stoodInHeld 141=false:=by kernel_rfl
theorem XnO:Tryz.prog.underlying 141=some (.struct (Tryz.prog.fieldsOf 141)):=by kernel_rfl
theorem Xxp:(Tryz.prog.fieldsOf 141).toList=[{ name:= "Name",type:=9,offset:=0,embedded:=false,tag:= "",pkgPath:= "",byteOffset:=0 },{ name:= "Value",type:=9,offset:=1,embedded:=false,tag:= "",pkgPath:= "",byteOffset:=16 }]:=by kernel_rfl
theorem XtI (a0 b0:ByteArray) (a1 b1:ByteArray) (x y:Operand) (w:World):(do eqGuard .neq 141 x y (.agg #[.string a0,.string a1]) (.agg #[.string b0,.string b1]);binOp .neq 141 (.agg #[.string a0,.string a1]) (.agg #[.string b0,.string b1]):Sem Value).run Tryz.prog w=.ok (.bool (!(eqv a0 b0 && eqv a1 b1))) w:=by
  simp only [Sem.run_bind,run_eqGuard_agg _ _ _ _ _ _ _ Xo0,Result.andThen_ok,run_neq_struct,run_equalIn_agg _ _ _ _ _ XnO Xrg,Xxp,Op.eqFields]
  by_cases h0:a0=b0
  case neg =>
    have h0':(a0.toList == b0.toList)=false:=by rw [Xeq];exact XaC h0
    rw [show (eqv a0 b0 && eqv a1 b1)=false from by simp [XaC h0]]
    go_simp
  subst h0
  by_cases h1:a1=b1
  case neg =>
    have h1':(a1.toList == b1.toList)=false:=by rw [Xeq];exact XaC h1
    rw [show (eqv a0 a0 && eqv a1 b1)=false from by simp [XaC h1]]
    go_simp
  subst h1
  simp only [XbA,Bool.and_self]
  go_simp
theorem XqV {o:Oper} {E:Env} {H:Xh} {ty:TypeId} {x y:Operand} {a b:Var} (ho:o.op=.binOp .neq 141 x y ty) (hx:E.ev x=some (.agg (Xc6 a))) (hy:E.ev y=some (.agg (Xc6 b))):OpV Tryz.prog o E H (.v (.bool (!(eqv a b)))):=by
  rw [Xwt]
  exact Xab ho hx hy rfl rfl (fun w=>XtI _ _ _ _ _ _ w) rfl
theorem XoZ (x:Var):(Xc6 x).length=2:=rfl
set_option maxHeartbeats 4000000 in
theorem Xqs (F G:List Var):Iso Tryz.prog 64 [XaK Xc6 2 F,XaK Xc6 2 G] (fun p=>p=B (eqv F G)):=by
  refine Xbk 0 rfl Tryz.func64 (by kernel_rfl) (by kernel_rfl) fun hF=>?_
  refine Xbk 1 rfl Tryz.func64 (by kernel_rfl) (by kernel_rfl) fun hG0=>?_
  have hG:=Xc
  refine Xb Tryz.func64 rfl rfl rfl ?_
  by_cases hl:F.length=G.length
  · repeat(first|refine Zd1 ?_)
    refine Xg (S:=Nat) (fun i=>[(0,XaK Xc6 2 F),(1,XaK Xc6 2 G),(12,I F.length),(13,I i)]) (fun i _=>i≤F.length∧eqv F G=eqv (F.drop i) (G.drop i)) (fun i=>F.length - i) 0
      (.cons rfl (.cons rfl (.cons rfl (.cons rfl (.nil _))))) ⟨by omega,rfl⟩ ?_
    rintro i H ⟨hi,he⟩
    have hG:=Has.nil H
    by_cases hil:i < F.length
    · obtain ⟨f,hf⟩:∃ x,F[i]?=some x:=⟨_,List.getElem?_eq_getElem hil⟩
      obtain ⟨g,hg⟩:∃ x,G[i]?=some x:=⟨_,List.getElem?_eq_getElem (by omega)⟩
      rw [XbB hf hg] at he
      repeat(first|refine Zd1 ?_)
      refine Zz ?_
      repeat(first|refine Y_q rfl rfl rfl (by decide) (Xf (cells:=F.flatMap Xc6) rfl rfl rfl (by omega) (by exact Xu XoZ F i f hf)) ?_|refine Y_q rfl rfl rfl (by decide) (Xf (cells:=G.flatMap Xc6) rfl rfl rfl (by omega) (by exact Xu XoZ G i g hg)) ?_|refine Y_q rfl rfl rfl (by decide) (XqV (a:=f) (b:=g) rfl rfl rfl) ?_|refine Zd2 ?_)
      cases hq:eqv f g with
      | true =>
        have hq':(!eqv f g)=false:=by rw [hq];rfl
        rw [hq,Bool.true_and] at he
        repeat(first|refine Zd1 ?_)
        exact ZaV
      | false =>
        have hq':(!eqv f g)=true:=by rw [hq];rfl
        rw [hq,Bool.false_and] at he
        repeat(first|refine Zd1 ?_)
        rw [he]
        exact ZE
    · have e:i=F.length:=by omega
      rw [Xcs e hl] at he
      subst e
      repeat(first|refine Zd1 ?_)
      rw [he]
      exact ZE
  · rw [Xcr hl]
    repeat(first|refine Zd1 ?_)
    exact ZE
end Go.Proofs.YtlcphjcpoinolaaGreat
namespace Go.Proofs.YtlcphjcpoinolaaGreat
open Go.RowKit Go.Th
set_option maxRecDepth 20000
set_option maxHeartbeats 8000000 in
theorem XeG (x y:Head):Iso Tryz.prog 59 [.agg (XN x),.agg (XN y)] (fun p=>p=B (eqv x y)):=by
  have hG:=Xc
  refine Xb Tryz.func59 rfl rfl rfl ?_
  repeat(first|refine Zd3 ?_|(refine Xr rfl rfl rfl rfl rfl rfl (by decide) (XkM _ _) (TreeL.cons (XT _) (TreeL.cons (XT _) TreeL.nil)) ?_;rintro _ rfl)|(refine ZI ?_;intro id G hG))
  generalize hb0:eqv x.props y.props=b0
  repeat(first|refine XcH (fun hb=>by subst hb;exact Iso.K rfl rfl rfl rfl (Xsm _ _) (TreeL.cons (XbL _) (TreeL.cons (XbL _) TreeL.nil))) rfl rfl rfl rfl rfl (by decide) ?_|refine XcH (fun hb=>by subst hb;exact Iso.K rfl rfl rfl rfl (Xqv _ _) (TreeL.cons (XbJ _) (TreeL.cons (XbJ _) TreeL.nil))) rfl rfl rfl rfl rfl (by decide) ?_|refine Zd4 ?_|(refine ZaZ ?_;intro bv hbv))
  repeat(first|refine Zd3 ?_)
  subst_vars
  refine ZaF ?_
  rw [Xsk];simp only [Xhx];rfl
end Go.Proofs.YtlcphjcpoinolaaGreat
