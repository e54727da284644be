/- Part of the proof: the walk over the program and its laws: Qi. -/
import Derived.Test.YtlcphjcpoinolaaGreatP0
import Derived.Test.YtlcphjcpoinolaaGreatP20
import Derived.Test.YtlcphjcpoinolaaGreatP29
set_option linter.unusedVariables false
namespace Go.Proofs.YtlcphjcpoinolaaGreat
open Go.RowKit Go.Th
set_option maxRecDepth 20000
theorem Xoe {P:Program} {o:Oper} {E:Env} {H:Xi} {t ty:TypeId} {x y:Operand} {a b:Int} (ho:o.op=.binOp .add t x y ty) (hx:E.ev x=some (.v (.int .i64 a))) (hy:E.ev y=some (.v (.int .i64 b))) :
    OpV P o E H (.v (.int .i64 (IntKind.i64.wrap (a+b)))):=X7 ho hx hy rfl rfl (fun w=>by
  simp [eqGuard_at_int,binOp_add,Op.intArith]) rfl
def XuC (k:Int) (h:Head) (f:List Item) (r:List Row) (p:Plc) (s:CkS):Int × CkS :=
  if XcO s k h=0 then (if k=6 then Xb5 f ⟨false,true,p.tables⟩ s else if k=7 then Xe8 r ⟨false,p.note,IntKind.i64.wrap (p.tables+1)⟩ s else (0,s)) else (XcO s k h,s)
set_option maxHeartbeats 64000000 in
theorem XuT (k code i:Int) (t:ByteArray) (h:Head) (f:List Item) (r:List Row) (ht:t.size≤1000000) (hh:HeadOk h) (hf:Xiz f) (hr:XAN r):XqH (.mk k code i t h f r):=by
  intro p c s K H hc
  rw [XG]
  obtain ⟨q,hq0⟩:∃ q,Xda (.mk k code i t h f r) p s=q:=⟨_,rfl⟩
  rw [hq0]
  rw [Xda] at hq0
  have hF:=Xr3 k code i t h f r ht
  have tF:∀ c ∈ [PV.agg (Xbs k code i t h f r)],Xk c:=TreeL.cons (Xk.agg (by have:=XaW (.mk k code i t h f r);rw [XG] at this;exact this)) TreeL.nil
  generalize Xbt k code i t f.length r.length=e at hF hq0
  obtain ⟨es,el,er,eb,eu,ts,tl,tr,tb,tu,hG,a1,a2,a3,a4,a5⟩:=hc
  refine Xv Tryz.func119 rfl rfl rfl ?_
  refine Zc ?_
  refine Zb ?_
  repeat(first|refine Zd ?_|(refine ZH ?_;intro id G hG))
  refine Za ?_
  rename_i b4 _ _
  obtain ⟨b5,hb5⟩:∃ b5,b5=id:=⟨_,rfl⟩
  rw [← hb5] at hG ⊢
  refine Xb8 (Has.swap6 [(b5,⟨XaA p,113,true⟩),(b4,⟨Xbs k code i t h f r,46,true⟩)] hG) ?_
  clear hG hb5
  intro G hG
  by_cases e0:e=0
  rotate_left
  · rw [if_neg e0] at hq0
    repeat(first|refine Zes ?_|refine Zau ?_|(refine ZaD ?_;rintro _ rfl))
    exact XC rfl rfl ⟨by rw [← hq0],by rw [← hq0];exact CkH.cut [(b5,⟨XaA p,113,true⟩),(b4,⟨Xbs k code i t h f r,46,true⟩)] ⟨es,el,er,eb,eu,ts,tl,tr,tb,tu,hG,a1,a2,a3,a4,a5⟩⟩
  rw [if_pos e0] at hq0
  subst e0
  repeat(first|refine Zez ?_|refine Zau ?_|(refine ZaD ?_;rintro _ rfl)|refine ZcT ?_|refine ZA ?_|refine ZL ?_|(refine Zz ?_;intro G hG))
  have hc:CkH c (XjE s 1) ((b5,⟨XaA p,113,true⟩)::(b4,⟨Xbs k code i t h f r,46,true⟩)::K) _:=⟨es,el,er,eb,eu,ts,tl,tr,tb,tu,hG,a1,a2,a3,a4,a5⟩
  clear hF tF hG a1 a2 a3 a4 a5
  generalize XjE s 1=s at hc hq0
  have hq0:(if (XdZ k i t p s).1=0 then XuC k h f r p (XdZ k i t p s).2 else XdZ k i t p s)=q:=hq0
  refine Xcx (S:=CkS) (fun _=>[(0,.ptr c.ic 0),(4,.ptr b4 0),(5,.ptr b5 0)]) (fun s G=>CkH c s ((b5,⟨XaA p,113,true⟩)::(b4,⟨Xbs k code i t h f r,46,true⟩)::K) G∧XuC k h f r p s=q) ?_ ?_
  · obtain ⟨pb,pn,pt⟩:=p
    obtain ⟨es,el,er,eb,eu,ts,tl,tr,tb,tu,hG,a1,a2,a3,a4,a5⟩:=hc
    by_cases k1:k=1
    · subst k1
      have hCt:=XqL t ht
      have tCt:∀ c ∈ [S t],Xk c:=TreeL.cons (Xad _) TreeL.nil
      have e1:XdZ 1 i t ⟨pb,pn,pt⟩ s=(0,XjE s (IntKind.i64.wrap ((if XbH t=true then (XmW t:Int) else 0) - 1))):=by unfold XdZ;rw [if_pos rfl]
      rw [e1] at hq0
      dsimp only at hq0
      rw [if_pos rfl] at hq0
      clear e1
      generalize (if XbH t=true then (XmW t:Int) else 0)=n at hCt hq0
      repeat(first|refine Zes ?_|refine ZJ ?_|refine Zau ?_|(refine Xr rfl rfl rfl rfl rfl rfl (by decide) hCt tCt ?_;rintro _ rfl)|refine ZcT ?_|refine Xn rfl rfl (by decide) (XsE rfl rfl rfl) ?_|refine ZL ?_|refine Z8 ?_|(refine Zz ?_;intro G hG)|refine ZY ?_|refine Z1 ?_)
      exact ⟨XjE s (IntKind.i64.wrap (n - 1)),.cons rfl (.cons rfl (.cons rfl (.nil _))),⟨es,el,er,eb,eu,ts,tl,tr,tb,tu,hG,a1,a2,a3,a4,a5⟩,hq0⟩
    by_cases k3:k=3
    · subst k3
      cases pb with
      | true =>
        have e1:XdZ 3 i t ⟨true,pn,pt⟩ s=(0,s):=by unfold XdZ;rw [if_neg (by decide),if_pos rfl,if_pos rfl]
        rw [e1] at hq0
        dsimp only at hq0
        rw [if_pos rfl] at hq0
        repeat(first|refine Zes ?_|refine ZR ?_|refine ZY ?_|refine Z1 ?_)
        exact ZcU
      | false =>
        have e1:XdZ 3 i t ⟨false,pn,pt⟩ s=(19,s):=by unfold XdZ;rw [if_neg (by decide),if_pos rfl,if_neg (by simp)]
        rw [e1] at hq0
        dsimp only at hq0
        rw [if_neg (by decide)] at hq0
        repeat(first|refine Zes ?_|refine ZR ?_)
        exact XC rfl rfl ⟨by first | (rw [← hq0];rfl) | rw [← hq0],by rw [← hq0];exact CkH.cut [(b5,⟨XaA ⟨false,pn,pt⟩,113,true⟩),(b4,⟨Xbs 3 code i t h f r,46,true⟩)] ⟨es,el,er,eb,eu,ts,tl,tr,tb,tu,hG,a1,a2,a3,a4,a5⟩⟩
    by_cases k6:k=6
    · subst k6
      have tW:∀ (b:Bool) (e:Int),∀ c ∈ [B b,I e],Xk c:=fun b e=>TreeL.cons (Xk.v _) (TreeL.cons (Xk.v _) TreeL.nil)
      cases pn with
      | true =>
        have hW:Iso Tryz.prog 50 [B true,I 19] (fun p=>p=I 19):=Xbe true 19
        have hT:Iso Tryz.prog 45 [XcS [19]] (fun p=>p=I 19):=Xa8 [19] (by simp)
        have tT:∀ c ∈ [XcS [19]],Xk c:=TreeL.cons (XY _) TreeL.nil
        have e1:XdZ 6 i t ⟨pb,true,pt⟩ s=(19,s):=by unfold XdZ;rw [if_neg (by decide),if_neg (by decide),if_pos rfl,if_pos rfl]
        rw [e1] at hq0
        dsimp only at hq0
        rw [if_neg (by decide)] at hq0
        repeat(first|refine Zes ?_|refine ZR ?_|(refine Xr rfl rfl rfl rfl rfl rfl (by decide) hW (tW _ _) ?_;rintro _ rfl)|(refine ZdZ ?_;rintro _ rfl)|(refine ZO ?_;intro id G hG))
        exact XC rfl rfl ⟨by first | (rw [← hq0];rfl) | rw [← hq0],by rw [← hq0];exact CkH.cut [(b5,⟨XaA ⟨pb,true,pt⟩,113,true⟩),(b4,⟨Xbs 6 code i t h f r,46,true⟩)] ⟨es,el,er,eb,eu,ts,tl,tr,tb,tu,hG.tail,a1,a2,a3,a4,a5⟩⟩
      | false =>
        have hW:Iso Tryz.prog 50 [B false,I 19] (fun p=>p=I 0):=Xbe false 19
        have hT:Iso Tryz.prog 45 [XcS [0]] (fun p=>p=I 0):=Xa8 [0] (by simp)
        have tT:∀ c ∈ [XcS [0]],Xk c:=TreeL.cons (XY _) TreeL.nil
        have e1:XdZ 6 i t ⟨pb,false,pt⟩ s=(idF s i,idS s i):=by unfold XdZ;rw [if_neg (by decide),if_neg (by decide),if_pos rfl,if_neg (by simp)]
        rw [e1] at hq0
        repeat(first|refine Zes ?_|refine ZR ?_|refine ZcH ?_|(refine Xr rfl rfl rfl rfl rfl rfl (by decide) hW (tW _ _) ?_;rintro _ rfl)|(refine ZdZ ?_;rintro _ rfl)|(refine ZO ?_;intro id G hG))
        refine X5 rfl rfl rfl rfl rfl rfl (by decide) (Xvk c s _ _ ⟨es,el,er,eb,eu,ts,tl,tr,tb,tu,hG.tail,a1,a2,a3,a4,a5⟩ i) ?_
        rintro _ G ⟨rfl,hq⟩
        have hG:=Has.nil G
        dsimp only at hq0
        by_cases i0:idF s i=0
        rotate_left
        · rw [if_neg i0] at hq0
          repeat(first|refine Zes ?_)
          exact XC rfl rfl ⟨by rw [← hq0],by rw [← hq0];exact hq.cut [(b5,⟨XaA ⟨pb,false,pt⟩,113,true⟩),(b4,⟨Xbs 6 code i t h f r,46,true⟩)]⟩
        rw [if_pos i0] at hq0
        repeat(first|refine Zes ?_|refine ZY ?_|refine Z1 ?_)
        exact ⟨idS s i,.cons rfl (.cons rfl (.cons rfl (.nil _))),hq,hq0⟩
    by_cases k7:k=7
    · subst k7
      by_cases c4:4≤pt
      · have e1:XdZ 7 i t ⟨pb,pn,pt⟩ s=(17,s):=by unfold XdZ;rw [if_neg (by decide),if_neg (by decide),if_neg (by decide),if_pos rfl,if_pos c4]
        rw [e1] at hq0
        dsimp only at hq0
        rw [if_neg (by decide)] at hq0
        repeat(first|refine Zes ?_|refine ZR ?_)
        exact XC rfl rfl ⟨by first | (rw [← hq0];rfl) | rw [← hq0],by rw [← hq0];exact CkH.cut [(b5,⟨XaA ⟨pb,pn,pt⟩,113,true⟩),(b4,⟨Xbs 7 code i t h f r,46,true⟩)] ⟨es,el,er,eb,eu,ts,tl,tr,tb,tu,hG,a1,a2,a3,a4,a5⟩⟩
      have e1:XdZ 7 i t ⟨pb,pn,pt⟩ s=(idF s i,idS s i):=by unfold XdZ;rw [if_neg (by decide),if_neg (by decide),if_neg (by decide),if_pos rfl,if_neg c4]
      rw [e1] at hq0
      repeat(first|refine Zes ?_|refine ZR ?_|refine Zau ?_)
      refine X5 rfl rfl rfl rfl rfl rfl (by decide) (Xvk c s _ _ ⟨es,el,er,eb,eu,ts,tl,tr,tb,tu,hG,a1,a2,a3,a4,a5⟩ i) ?_
      rintro _ G ⟨rfl,hq⟩
      have hG:=Has.nil G
      dsimp only at hq0
      by_cases i0:idF s i=0
      rotate_left
      · rw [if_neg i0] at hq0
        repeat(first|refine Zes ?_)
        exact XC rfl rfl ⟨by rw [← hq0],by rw [← hq0];exact hq.cut [(b5,⟨XaA ⟨pb,pn,pt⟩,113,true⟩),(b4,⟨Xbs 7 code i t h f r,46,true⟩)]⟩
      rw [if_pos i0] at hq0
      repeat(first|refine Zes ?_|refine ZY ?_|refine Z1 ?_)
      exact ⟨idS s i,.cons rfl (.cons rfl (.cons rfl (.nil _))),hq,hq0⟩
    by_cases k8:k=8
    · subst k8
      have hI:=Xcl i 1 1073741824
      have tI:∀ c ∈ [I i,I 1,I 1073741824],Xk c:=TreeL.cons (Xe _) (TreeL.cons (Xe _) (TreeL.cons (Xe _) TreeL.nil))
      cases hin:inF i 1 1073741824 with
      | true =>
        have e1:XdZ 8 i t ⟨pb,pn,pt⟩ s=(0,s):=by unfold XdZ;rw [if_neg (by decide),if_neg (by decide),if_neg (by decide),if_neg (by decide),if_pos rfl,if_pos hin]
        rw [hin] at hI
        rw [e1] at hq0
        dsimp only at hq0
        rw [if_pos rfl] at hq0
        repeat(first|refine Zes ?_|refine Zau ?_|(refine Zad ?_;rintro _ rfl)|refine ZY ?_|refine Z1 ?_)
        exact ZcU
      | false =>
        have e1:XdZ 8 i t ⟨pb,pn,pt⟩ s=(18,s):=by unfold XdZ;rw [if_neg (by decide),if_neg (by decide),if_neg (by decide),if_neg (by decide),if_pos rfl,if_neg (by rw [hin];decide)]
        rw [hin] at hI
        rw [e1] at hq0
        dsimp only at hq0
        rw [if_neg (by decide)] at hq0
        repeat(first|refine Zes ?_|refine Zau ?_|(refine Zad ?_;rintro _ rfl))
        exact XC rfl rfl ⟨by first | (rw [← hq0];rfl) | rw [← hq0],by rw [← hq0];exact CkH.cut [(b5,⟨XaA ⟨pb,pn,pt⟩,113,true⟩),(b4,⟨Xbs 8 code i t h f r,46,true⟩)] ⟨es,el,er,eb,eu,ts,tl,tr,tb,tu,hG,a1,a2,a3,a4,a5⟩⟩
    have e1:XdZ k i t ⟨pb,pn,pt⟩ s=(0,s):=by unfold XdZ;rw [if_neg k1,if_neg k3,if_neg k6,if_neg k7,if_neg k8]
    rw [e1] at hq0
    dsimp only at hq0
    rw [if_pos rfl] at hq0
    repeat(first|refine Zes ?_|refine ZY ?_|refine Z1 ?_)
    exact ZcU
  rintro s2 G ⟨hc,hq0⟩
  unfold XuC at hq0
  obtain ⟨es,el,er,eb,eu,ts,tl,tr,tb,tu,hG,a1,a2,a3,a4,a5⟩:=hc
  repeat(first|refine Zes ?_|refine Zau ?_)
  refine X5 rfl rfl rfl rfl rfl rfl (by decide) (Xi1 c s2 _ _ ⟨es,el,er,eb,eu,ts,tl,tr,tb,tu,hG,a1,a2,a3,a4,a5⟩ k h hh) ?_
  rintro _ G ⟨rfl,hq⟩
  by_cases h0:XcO s2 k h=0
  rotate_left
  · rw [if_neg h0] at hq0
    have hG:=Has.nil G
    repeat(first|refine Zes ?_)
    exact XC rfl rfl ⟨by rw [← hq0],by rw [← hq0];exact hq.cut [(b5,⟨XaA p,113,true⟩),(b4,⟨Xbs k code i t h f r,46,true⟩)]⟩
  rw [if_pos h0] at hq0
  obtain ⟨es,el,er,eb,eu,ts,tl,tr,tb,tu,hG,a1,a2,a3,a4,a5⟩:=hq
  by_cases k6:k=6
  · rw [if_pos k6] at hq0
    repeat(first|refine Zes ?_|refine ZR ?_|refine Zau ?_|refine Zaj ?_)
    refine X5 rfl rfl rfl rfl rfl rfl (by decide) (hf ⟨false,true,p.tables⟩ c s2 _ _ ⟨es,el,er,eb,eu,ts,tl,tr,tb,tu,hG,a1,a2,a3,a4,a5⟩) ?_
    rintro _ G ⟨rfl,hq⟩
    rw [hq0] at hq ⊢
    have hG:=Has.nil G
    repeat(first|refine Zes ?_)
    exact Zd0
  rw [if_neg k6] at hq0
  by_cases k7:k=7
  · rw [if_pos k7] at hq0
    repeat(first|refine Zes ?_|refine ZR ?_|refine Zau ?_|refine ZcT ?_|refine Zaj ?_)
    refine X5 rfl rfl rfl rfl rfl rfl (by decide) (hr ⟨false,p.note,IntKind.i64.wrap (p.tables+1)⟩ c s2 _ _ ⟨es,el,er,eb,eu,ts,tl,tr,tb,tu,hG,a1,a2,a3,a4,a5⟩) ?_
    rintro _ G ⟨rfl,hq⟩
    rw [hq0] at hq ⊢
    have hG:=Has.nil G
    repeat(first|refine Zes ?_)
    exact Zd0
  rw [if_neg k7] at hq0
  repeat(first|refine Zes ?_|refine Zau ?_)
  exact XC rfl rfl ⟨by rw [← hq0];rfl,by rw [← hq0];exact CkH.cut [(b5,⟨XaA p,113,true⟩),(b4,⟨Xbs k code i t h f r,46,true⟩)] ⟨es,el,er,eb,eu,ts,tl,tr,tb,tu,hG,a1,a2,a3,a4,a5⟩⟩
end Go.Proofs.YtlcphjcpoinolaaGreat
