/- Part of the proof: the walk over the program and its laws: Qi Qj Qk. -/
import Derived.Test.YtlcphjcpoinolaaGreatP0
import Derived.Test.YtlcphjcpoinolaaGreatP37
import Derived.Test.YtlcphjcpoinolaaGreatP40
import Derived.Test.YtlcphjcpoinolaaGreatP15
set_option linter.unusedVariables false
namespace Go.Proofs.YtlcphjcpoinolaaGreat
open Go.RowKit Go.Th
set_option maxRecDepth 20000
theorem XoJ {P:Program} {o:Oper} {E:Env} {H:Xh} {t ty:TypeId} {x y:Operand} {a b:Int} (ho:o.op=.binOp .add t x y ty) (hx:E.ev x=some (.v (.int .i64 a))) (hy:E.ev y=some (.v (.int .i64 b))) :
    OpV P o E H (.v (.int .i64 (IntKind.i64.wrap (a+b)))):=Xab ho hx hy rfl rfl (fun w=>by
  simp [eqGuard_at_int,binOp_add,Op.intArith]) rfl
def XuD (k:Int) (h:Head) (f:List Item) (r:List Row) (p:Plc) (s:CkS):Int × CkS :=
  if Xcb s k h=0 then (if k=6 then Xa6 f ⟨false,true,p.tables⟩ s else if k=7 then Xfo r ⟨false,p.note,IntKind.i64.wrap (p.tables+1)⟩ s else (0,s)) else (Xcb s k h,s)
set_option maxHeartbeats 64000000 in
theorem XuV (k code i:Int) (t:ByteArray) (h:Head) (f:List Item) (r:List Row) (ht:t.size≤1000000) (hh:HeadOk h) (hf:XiF f) (hr:XAN r):Xq1 (.mk k code i t h f r):=by
  intro p c s K H hc
  rw [XK]
  obtain ⟨q,hq0⟩:∃ q,XbO (.mk k code i t h f r) p s=q:=⟨_,rfl⟩
  rw [hq0]
  rw [XbO] at hq0
  have hF:=Xsh k code i t h f r ht
  have tF:∀ c ∈ [PV.agg (Xbt k code i t h f r)],Xi c:=TreeL.cons (Xi.agg (by have:=Xbq (.mk k code i t h f r);rw [XK] at this;exact this)) TreeL.nil
  generalize Xbh k code i t f.length r.length=e at hF hq0
  obtain ⟨es,el,er,eb,eu,ts,tl,tr,tb,tu,hG,a1,a2,a3,a4,a5⟩:=hc
  refine Xw Tryz.func119 rfl rfl rfl ?_
  refine Zc ?_
  refine Zb ?_
  repeat(first|refine Zd ?_|(refine ZI ?_;intro id G hG))
  refine Za ?_
  rename_i b4 _ _
  obtain ⟨b5,hb5⟩:∃ b5,b5=id:=⟨_,rfl⟩
  rw [← hb5] at hG ⊢
  refine Xb7 (Has.swap6 [(b5,⟨Xax p,113,true⟩),(b4,⟨Xbt k code i t h f r,46,true⟩)] hG) ?_
  clear hG hb5
  intro G hG
  by_cases e0:e=0
  rotate_left
  · rw [if_neg e0] at hq0
    repeat(first|refine Zd1 ?_|refine Zaq ?_|(refine Zaz ?_;rintro _ rfl))
    exact XG rfl rfl ⟨by rw [← hq0],by rw [← hq0];exact CkH.cut [(b5,⟨Xax p,113,true⟩),(b4,⟨Xbt k code i t h f r,46,true⟩)] ⟨es,el,er,eb,eu,ts,tl,tr,tb,tu,hG,a1,a2,a3,a4,a5⟩⟩
  rw [if_pos e0] at hq0
  subst e0
  repeat(first|refine Zd7 ?_|refine Zaq ?_|(refine Zaz ?_;rintro _ rfl)|refine ZcM ?_|refine ZB ?_|refine Zad ?_|(refine ZA ?_;intro G hG))
  have hc:CkH c (XeN s 1) ((b5,⟨Xax p,113,true⟩)::(b4,⟨Xbt k code i t h f r,46,true⟩)::K) _:=⟨es,el,er,eb,eu,ts,tl,tr,tb,tu,hG,a1,a2,a3,a4,a5⟩
  clear hF tF hG a1 a2 a3 a4 a5
  generalize XeN s 1=s at hc hq0
  have hq0:(if (XdD k i t p s).1=0 then XuD k h f r p (XdD k i t p s).2 else XdD k i t p s)=q:=hq0
  refine Xcw (S:=CkS) (fun _=>[(0,.ptr c.ic 0),(4,.ptr b4 0),(5,.ptr b5 0)]) (fun s G=>CkH c s ((b5,⟨Xax p,113,true⟩)::(b4,⟨Xbt k code i t h f r,46,true⟩)::K) G∧XuD k h f r p s=q) ?_ ?_
  · obtain ⟨pb,pn,pt⟩:=p
    obtain ⟨es,el,er,eb,eu,ts,tl,tr,tb,tu,hG,a1,a2,a3,a4,a5⟩:=hc
    by_cases k1:k=1
    · subst k1
      have hCt:=XhQ t ht
      have tCt:∀ c ∈ [S t],Xi c:=TreeL.cons (XX _) TreeL.nil
      have e1:XdD 1 i t ⟨pb,pn,pt⟩ s=(0,XeN s (IntKind.i64.wrap ((if XaZ t=true then (Xcu t:Int) else 0) - 1))):=by unfold XdD;rw [if_pos rfl]
      rw [e1] at hq0
      dsimp only at hq0
      rw [if_pos rfl] at hq0
      clear e1
      generalize (if XaZ t=true then (Xcu t:Int) else 0)=n at hCt hq0
      repeat(first|refine Zd1 ?_|refine ZJ ?_|refine Zaq ?_|(refine Xr rfl rfl rfl rfl rfl rfl (by decide) hCt tCt ?_;rintro _ rfl)|refine ZcM ?_|refine Xj rfl rfl (by decide) (XsN rfl rfl rfl) ?_|refine Zad ?_|refine ZS ?_|(refine ZA ?_;intro G hG)|refine ZN ?_|refine ZU ?_)
      exact ⟨XeN s (IntKind.i64.wrap (n - 1)),.cons rfl (.cons rfl (.cons rfl (.nil _))),⟨es,el,er,eb,eu,ts,tl,tr,tb,tu,hG,a1,a2,a3,a4,a5⟩,hq0⟩
    by_cases k3:k=3
    · subst k3
      cases pb with
      | true =>
        have e1:XdD 3 i t ⟨true,pn,pt⟩ s=(0,s):=by unfold XdD;rw [if_neg (by decide),if_pos rfl,if_pos rfl]
        rw [e1] at hq0
        dsimp only at hq0
        rw [if_pos rfl] at hq0
        repeat(first|refine Zd1 ?_|refine ZR ?_|refine ZN ?_|refine ZU ?_)
        exact ZcN
      | false =>
        have e1:XdD 3 i t ⟨false,pn,pt⟩ s=(19,s):=by unfold XdD;rw [if_neg (by decide),if_pos rfl,if_neg (by simp)]
        rw [e1] at hq0
        dsimp only at hq0
        rw [if_neg (by decide)] at hq0
        repeat(first|refine Zd1 ?_|refine ZR ?_)
        exact XG rfl rfl ⟨by first | (rw [← hq0];rfl) | rw [← hq0],by rw [← hq0];exact CkH.cut [(b5,⟨Xax ⟨false,pn,pt⟩,113,true⟩),(b4,⟨Xbt 3 code i t h f r,46,true⟩)] ⟨es,el,er,eb,eu,ts,tl,tr,tb,tu,hG,a1,a2,a3,a4,a5⟩⟩
    by_cases k6:k=6
    · subst k6
      have tW:∀ (b:Bool) (e:Int),∀ c ∈ [B b,I e],Xi c:=fun b e=>TreeL.cons (Xi.v _) (TreeL.cons (Xi.v _) TreeL.nil)
      cases pn with
      | true =>
        have hW:Iso Tryz.prog 50 [B true,I 19] (fun p=>p=I 19):=Xbi true 19
        have hT:Iso Tryz.prog 45 [Xc0 [19]] (fun p=>p=I 19):=Xbn [19] (by simp)
        have tT:∀ c ∈ [Xc0 [19]],Xi c:=TreeL.cons (XW _) TreeL.nil
        have e1:XdD 6 i t ⟨pb,true,pt⟩ s=(19,s):=by unfold XdD;rw [if_neg (by decide),if_neg (by decide),if_pos rfl,if_pos rfl]
        rw [e1] at hq0
        dsimp only at hq0
        rw [if_neg (by decide)] at hq0
        repeat(first|refine Zd1 ?_|refine ZR ?_|(refine Xr rfl rfl rfl rfl rfl rfl (by decide) hW (tW _ _) ?_;rintro _ rfl)|(refine ZdM ?_;rintro _ rfl)|(refine ZL ?_;intro id G hG))
        exact XG rfl rfl ⟨by first | (rw [← hq0];rfl) | rw [← hq0],by rw [← hq0];exact CkH.cut [(b5,⟨Xax ⟨pb,true,pt⟩,113,true⟩),(b4,⟨Xbt 6 code i t h f r,46,true⟩)] ⟨es,el,er,eb,eu,ts,tl,tr,tb,tu,hG.tail,a1,a2,a3,a4,a5⟩⟩
      | false =>
        have hW:Iso Tryz.prog 50 [B false,I 19] (fun p=>p=I 0):=Xbi false 19
        have hT:Iso Tryz.prog 45 [Xc0 [0]] (fun p=>p=I 0):=Xbn [0] (by simp)
        have tT:∀ c ∈ [Xc0 [0]],Xi c:=TreeL.cons (XW _) TreeL.nil
        have e1:XdD 6 i t ⟨pb,false,pt⟩ s=(idF s i,idS s i):=by unfold XdD;rw [if_neg (by decide),if_neg (by decide),if_pos rfl,if_neg (by simp)]
        rw [e1] at hq0
        repeat(first|refine Zd1 ?_|refine ZR ?_|refine Zct ?_|(refine Xr rfl rfl rfl rfl rfl rfl (by decide) hW (tW _ _) ?_;rintro _ rfl)|(refine ZdM ?_;rintro _ rfl)|(refine ZL ?_;intro id G hG))
        refine X0 rfl rfl rfl rfl rfl rfl (by decide) (Xvh c s _ _ ⟨es,el,er,eb,eu,ts,tl,tr,tb,tu,hG.tail,a1,a2,a3,a4,a5⟩ i) ?_
        rintro _ G ⟨rfl,hq⟩
        have hG:=Has.nil G
        dsimp only at hq0
        by_cases i0:idF s i=0
        rotate_left
        · rw [if_neg i0] at hq0
          repeat(first|refine Zd1 ?_)
          exact XG rfl rfl ⟨by rw [← hq0],by rw [← hq0];exact hq.cut [(b5,⟨Xax ⟨pb,false,pt⟩,113,true⟩),(b4,⟨Xbt 6 code i t h f r,46,true⟩)]⟩
        rw [if_pos i0] at hq0
        repeat(first|refine Zd1 ?_|refine ZN ?_|refine ZU ?_)
        exact ⟨idS s i,.cons rfl (.cons rfl (.cons rfl (.nil _))),hq,hq0⟩
    by_cases k7:k=7
    · subst k7
      by_cases c4:4≤pt
      · have e1:XdD 7 i t ⟨pb,pn,pt⟩ s=(17,s):=by unfold XdD;rw [if_neg (by decide),if_neg (by decide),if_neg (by decide),if_pos rfl,if_pos c4]
        rw [e1] at hq0
        dsimp only at hq0
        rw [if_neg (by decide)] at hq0
        repeat(first|refine Zd1 ?_|refine ZR ?_)
        exact XG rfl rfl ⟨by first | (rw [← hq0];rfl) | rw [← hq0],by rw [← hq0];exact CkH.cut [(b5,⟨Xax ⟨pb,pn,pt⟩,113,true⟩),(b4,⟨Xbt 7 code i t h f r,46,true⟩)] ⟨es,el,er,eb,eu,ts,tl,tr,tb,tu,hG,a1,a2,a3,a4,a5⟩⟩
      have e1:XdD 7 i t ⟨pb,pn,pt⟩ s=(idF s i,idS s i):=by unfold XdD;rw [if_neg (by decide),if_neg (by decide),if_neg (by decide),if_pos rfl,if_neg c4]
      rw [e1] at hq0
      repeat(first|refine Zd1 ?_|refine ZR ?_|refine Zaq ?_)
      refine X0 rfl rfl rfl rfl rfl rfl (by decide) (Xvh c s _ _ ⟨es,el,er,eb,eu,ts,tl,tr,tb,tu,hG,a1,a2,a3,a4,a5⟩ i) ?_
      rintro _ G ⟨rfl,hq⟩
      have hG:=Has.nil G
      dsimp only at hq0
      by_cases i0:idF s i=0
      rotate_left
      · rw [if_neg i0] at hq0
        repeat(first|refine Zd1 ?_)
        exact XG rfl rfl ⟨by rw [← hq0],by rw [← hq0];exact hq.cut [(b5,⟨Xax ⟨pb,pn,pt⟩,113,true⟩),(b4,⟨Xbt 7 code i t h f r,46,true⟩)]⟩
      rw [if_pos i0] at hq0
      repeat(first|refine Zd1 ?_|refine ZN ?_|refine ZU ?_)
      exact ⟨idS s i,.cons rfl (.cons rfl (.cons rfl (.nil _))),hq,hq0⟩
    by_cases k8:k=8
    · subst k8
      have hI:=Xct i 1 1073741824
      have tI:∀ c ∈ [I i,I 1,I 1073741824],Xi c:=TreeL.cons (Xe _) (TreeL.cons (Xe _) (TreeL.cons (Xe _) TreeL.nil))
      cases hin:inF i 1 1073741824 with
      | true =>
        have e1:XdD 8 i t ⟨pb,pn,pt⟩ s=(0,s):=by unfold XdD;rw [if_neg (by decide),if_neg (by decide),if_neg (by decide),if_neg (by decide),if_pos rfl,if_pos hin]
        rw [hin] at hI
        rw [e1] at hq0
        dsimp only at hq0
        rw [if_pos rfl] at hq0
        repeat(first|refine Zd1 ?_|refine Zaq ?_|(refine Zaa ?_;rintro _ rfl)|refine ZN ?_|refine ZU ?_)
        exact ZcN
      | false =>
        have e1:XdD 8 i t ⟨pb,pn,pt⟩ s=(18,s):=by unfold XdD;rw [if_neg (by decide),if_neg (by decide),if_neg (by decide),if_neg (by decide),if_pos rfl,if_neg (by rw [hin];decide)]
        rw [hin] at hI
        rw [e1] at hq0
        dsimp only at hq0
        rw [if_neg (by decide)] at hq0
        repeat(first|refine Zd1 ?_|refine Zaq ?_|(refine Zaa ?_;rintro _ rfl))
        exact XG rfl rfl ⟨by first | (rw [← hq0];rfl) | rw [← hq0],by rw [← hq0];exact CkH.cut [(b5,⟨Xax ⟨pb,pn,pt⟩,113,true⟩),(b4,⟨Xbt 8 code i t h f r,46,true⟩)] ⟨es,el,er,eb,eu,ts,tl,tr,tb,tu,hG,a1,a2,a3,a4,a5⟩⟩
    have e1:XdD k i t ⟨pb,pn,pt⟩ s=(0,s):=by unfold XdD;rw [if_neg k1,if_neg k3,if_neg k6,if_neg k7,if_neg k8]
    rw [e1] at hq0
    dsimp only at hq0
    rw [if_pos rfl] at hq0
    repeat(first|refine Zd1 ?_|refine ZN ?_|refine ZU ?_)
    exact ZcN
  rintro s2 G ⟨hc,hq0⟩
  unfold XuD at hq0
  obtain ⟨es,el,er,eb,eu,ts,tl,tr,tb,tu,hG,a1,a2,a3,a4,a5⟩:=hc
  repeat(first|refine Zd1 ?_|refine Zaq ?_)
  refine X0 rfl rfl rfl rfl rfl rfl (by decide) (Xjc c s2 _ _ ⟨es,el,er,eb,eu,ts,tl,tr,tb,tu,hG,a1,a2,a3,a4,a5⟩ k h hh) ?_
  rintro _ G ⟨rfl,hq⟩
  by_cases h0:Xcb s2 k h=0
  rotate_left
  · rw [if_neg h0] at hq0
    have hG:=Has.nil G
    repeat(first|refine Zd1 ?_)
    exact XG rfl rfl ⟨by rw [← hq0],by rw [← hq0];exact hq.cut [(b5,⟨Xax p,113,true⟩),(b4,⟨Xbt k code i t h f r,46,true⟩)]⟩
  rw [if_pos h0] at hq0
  obtain ⟨es,el,er,eb,eu,ts,tl,tr,tb,tu,hG,a1,a2,a3,a4,a5⟩:=hq
  by_cases k6:k=6
  · rw [if_pos k6] at hq0
    repeat(first|refine Zd1 ?_|refine ZR ?_|refine Zaq ?_|refine Z5 ?_)
    refine X0 rfl rfl rfl rfl rfl rfl (by decide) (hf ⟨false,true,p.tables⟩ c s2 _ _ ⟨es,el,er,eb,eu,ts,tl,tr,tb,tu,hG,a1,a2,a3,a4,a5⟩) ?_
    rintro _ G ⟨rfl,hq⟩
    rw [hq0] at hq ⊢
    have hG:=Has.nil G
    repeat(first|refine Zd1 ?_)
    exact ZdN
  rw [if_neg k6] at hq0
  by_cases k7:k=7
  · rw [if_pos k7] at hq0
    repeat(first|refine Zd1 ?_|refine ZR ?_|refine Zaq ?_|refine ZcM ?_|refine Z5 ?_)
    refine X0 rfl rfl rfl rfl rfl rfl (by decide) (hr ⟨false,p.note,IntKind.i64.wrap (p.tables+1)⟩ c s2 _ _ ⟨es,el,er,eb,eu,ts,tl,tr,tb,tu,hG,a1,a2,a3,a4,a5⟩) ?_
    rintro _ G ⟨rfl,hq⟩
    rw [hq0] at hq ⊢
    have hG:=Has.nil G
    repeat(first|refine Zd1 ?_)
    exact ZdN
  rw [if_neg k7] at hq0
  repeat(first|refine Zd1 ?_|refine Zaq ?_)
  exact XG rfl rfl ⟨by rw [← hq0];rfl,by rw [← hq0];exact CkH.cut [(b5,⟨Xax p,113,true⟩),(b4,⟨Xbt k code i t h f r,46,true⟩)] ⟨es,el,er,eb,eu,ts,tl,tr,tb,tu,hG,a1,a2,a3,a4,a5⟩⟩
end Go.Proofs.YtlcphjcpoinolaaGreat
namespace Go.Proofs.YtlcphjcpoinolaaGreat
open Go.RowKit Go.Th
theorem Xhj {h:Head} (hc:Xjw h≤300):HeadOk h:=by
  unfold Xjw at hc
  exact ⟨by omega,by omega,by omega⟩
mutual
theorem XpX:∀ (x:Item),XbH x≤300→Xq1 x
  | .mk k code i t h f r,hc=>by
    rw [XbH] at hc
    have h1:=XaH f
    have h2:=Xcf r
    exact XuV k code i t h f r (by omega) (Xhj (by omega)) (Xi7 f (by omega) (XeD f (by omega))) (Xuv r (by omega) (Xkb r (by omega)))
theorem XeD:∀ (l:List Item),Xz l≤300→∀ x ∈ l,Xq1 x
  | [],_=>fun x h=>by simp at h
  | x::l,hc=>by
    rw [Xz] at hc
    intro y hy
    rcases List.mem_cons.1 hy with e | hy
    · rw [e];exact XpX x (by omega)
    · exact XeD l (by omega) y hy
theorem Xkb:∀ (l:List Row),XbZ l≤300→∀ x ∈ l,∀ h cs,x=.mk h cs→HeadOk h∧cs.length≤1000000∧∀ y ∈ cs,∀ i h f,y=.mk i h f→HeadOk h∧XiF f
  | [],_=>fun x h=>by simp at h
  | .mk h0 cs0::l,hc=>by
    rw [XbZ,XfA] at hc
    have h1:=Xcg cs0
    have h2:=XiA cs0 (by omega)
    intro y hy h cs e
    rcases List.mem_cons.1 hy with e1 | hy
    · rw [e1] at e
      injection e with e2 e3
      subst e2;subst e3
      exact ⟨Xhj (by omega),by omega,h2⟩
    · exact Xkb l (by omega) y hy h cs e
theorem XiA:∀ (l:List Cell),Xco l≤300→∀ y ∈ l,∀ i h f,y=.mk i h f→HeadOk h∧XiF f
  | [],_=>fun x h=>by simp at h
  | .mk i0 h0 f0::l,hc=>by
    rw [Xco,XfB] at hc
    have h1:=XaH f0
    have h2:=XeD f0 (by omega)
    intro y hy i h f e
    rcases List.mem_cons.1 hy with e1 | hy
    · rw [e1] at e
      injection e with e2 e3 e4
      subst e3;subst e4
      exact ⟨Xhj (by omega),Xi7 f0 (by omega) h2⟩
    · exact XiA l (by omega) y hy i h f e
end
theorem Xog (l:List Item) (hc:Xz l≤300):XiF l:=Xi7 l (by have:=XaH l;omega) (XeD l hc)
end Go.Proofs.YtlcphjcpoinolaaGreat
namespace Go.Proofs.YtlcphjcpoinolaaGreat
open Go.RowKit Go.Th
set_option maxRecDepth 20000
def Xgp (l:List (Int × PV)) (es:XbC Int) (t:Nat):XbC Int × Nat:=match l with
  | []=>(es,t)
  | x::l=>Xgp l (Xgt es t x.1 x.2) (Xgu es t x.1)
def Xs5 (l:List Style):List (Int × PV):=l.map fun x=>(x.id,I x.kind)
def Xtg (l:List Lst):List (Int × PV):=l.map fun x=>(x.id,B true)
def Xta (l:List Rev):List (Int × PV):=l.map fun x=>(x.id,B true)
def XBu (es:XbC Int) (k:Int):Int:=match (Xdr es k).getD (I 0) with
  | .v (.int _ x)=>x
  | _=>0
def XAU (es:XbC Int) (k:Int):Bool:=match (Xdr es k).getD (B false) with
  | .v (.bool b)=>b
  | _=>false
def XlI (d:Doc):CkS :=
  { styles:=XBu (Xgp (Xs5 d.sets.styles) [] 0).1,lists:=XAU (Xgp (Xtg d.sets.lists) [] 0).1,revs:=XAU (Xgp (Xta d.revs) [] 0).1,before:=fun _=>false,used:=fun _=>false,units:=0,
    e:=⟨(Xgp (Xs5 d.sets.styles) [] 0).1,(Xgp (Xtg d.sets.lists) [] 0).1,(Xgp (Xta d.revs) [] 0).1,[],[],(Xgp (Xs5 d.sets.styles) [] 0).2,(Xgp (Xtg d.sets.lists) [] 0).2,(Xgp (Xta d.revs) [] 0).2,0,0⟩ }
def Xw2 (A:PV→Prop) (d:PV) (es:XbC Int):Prop:=∀ k,A ((Xdr es k).getD d)
theorem XgL {A:PV→Prop} {d:PV}:∀ (l:List (Int × PV)) (es:XbC Int) (t:Nat),(∀ x ∈ l,A x.2)→Xw2 A d es→Xw2 A d (Xgp l es t).1
  | [],_,_,_,h=>h
  | x::l,es,t,hl,h=>XgL l _ _ (fun y hy=>hl y (by simp [hy])) (fun k=>by
    rw [Xft]
    by_cases e:k=x.1
    · rw [if_pos e];exact hl x (by simp)
    · rw [if_neg e];exact h k)
theorem Xvn {es:XbC Int} (h:Xw2 (fun p=>∃ x,p=I x) (I 0) es) (k:Int):(Xdr es k).getD (I 0)=I (XBu es k):=by
  obtain ⟨x,hx⟩:=h k
  unfold XBu
  rw [hx];rfl
theorem Xp6 {es:XbC Int} (h:Xw2 (fun p=>∃ x,p=B x) (B false) es) (k:Int):(Xdr es k).getD (B false)=B (XAU es k):=by
  obtain ⟨x,hx⟩:=h k
  unfold XAU
  rw [hx];rfl
theorem Xyk (l:List Style):Xw2 (fun p=>∃ x,p=I x) (I 0) (Xgp (Xs5 l) [] 0).1:=XgL _ _ _ (fun x hx=>by
  obtain ⟨y,_,rfl⟩:=List.mem_map.1 hx
  exact ⟨_,rfl⟩) (fun k=>⟨0,rfl⟩)
theorem XyM (l:List Lst):Xw2 (fun p=>∃ x,p=B x) (B false) (Xgp (Xtg l) [] 0).1:=XgL _ _ _ (fun x hx=>by
  obtain ⟨y,_,rfl⟩:=List.mem_map.1 hx
  exact ⟨_,rfl⟩) (fun k=>⟨false,rfl⟩)
theorem Xyw (l:List Rev):Xw2 (fun p=>∃ x,p=B x) (B false) (Xgp (Xta l) [] 0).1:=XgL _ _ _ (fun x hx=>by
  obtain ⟨y,_,rfl⟩:=List.mem_map.1 hx
  exact ⟨_,rfl⟩) (fun k=>⟨false,rfl⟩)
set_option maxHeartbeats 16000000 in
theorem Xi3 (d:Doc) (hl1:d.sets.styles.length≤1000000) (hl2:d.sets.lists.length≤1000000) (hl3:d.revs.length≤1000000) (K:List (Nat × Blk)) (H:Xh) (hK:Has H K):AC Tryz.prog 48 [.agg (X3 d)] H (fun p G=>∃ c:CkId,p=.ptr c.ic 0∧CkH c (XlI d) K G):=by
  have hG:=hK
  refine Xw Tryz.func48 rfl rfl rfl ?_
  repeat(first|refine Zd7 ?_|(refine XiK kyI hG rfl rfl (by decide) rfl ?_;intro id G hG)|refine Z5 ?_|(refine ZI ?_;intro id G hG))
  rename_i bd _ _ is _ _ il _ _ ir _ _ ib _ _ iu _ _
  obtain ⟨c,hcc⟩:∃ c:CkId,c=⟨id,is,il,ir,ib,iu⟩:=⟨_,rfl⟩
  have hG1:Has _ ((id,ckB ⟨id,is,il,ir,ib,iu⟩ 0)::([(is,XM kyI [] 0),(il,XM kyI [] 0),(ir,XM kyI [] 0),(ib,XM kyI [] 0),(iu,XM kyI [] 0)].reverse++((bd,⟨X3 d,53,true⟩)::K))):=hG
  have hG:=hG1.perm (List.Perm.cons _ ((List.reverse_perm _).append_right _))
  repeat(first|refine Zd1 ?_|refine ZR ?_)
  have o1:=Xyk d.sets.styles
  have o2:=XyM d.sets.lists
  have o3:=Xyw d.revs
  unfold XlI
  obtain ⟨q,hq⟩:∃ q,Xgp (Xs5 d.sets.styles) [] 0=q:=⟨_,rfl⟩
  obtain ⟨q2,hq2⟩:∃ q,Xgp (Xtg d.sets.lists) [] 0=q:=⟨_,rfl⟩
  obtain ⟨q3,hq3⟩:∃ q,Xgp (Xta d.revs) [] 0=q:=⟨_,rfl⟩
  rw [hq] at o1
  rw [hq2] at o2
  rw [hq3] at o3
  simp only [hq,hq2,hq3]
  refine Xg (S:=Nat × XbC Int × Nat) (fun x=>[(1,.ptr bd 0),(3,.ptr id 0),(19,XL d.sets.styles),(20,I d.sets.styles.length),(21,I x.1)])
    (fun x G=>x.1≤d.sets.styles.length∧Xgp (Xs5 (d.sets.styles.drop x.1)) x.2.1 x.2.2=q∧Has G ((id,ckB ⟨id,is,il,ir,ib,iu⟩ 0)::(is,XM kyI x.2.1 x.2.2)::(il,XM kyI [] 0)::(ir,XM kyI [] 0)::(ib,XM kyI [] 0)::(iu,XM kyI [] 0)::(bd,⟨X3 d,53,true⟩)::K)) (fun x=>d.sets.styles.length - x.1) (0,[],0)
    (.cons rfl (.cons rfl (.cons rfl (.cons rfl (.cons rfl (.nil _)))))) ⟨Nat.zero_le _,hq,hG⟩ ?_
  clear hG hG1 hq
  rintro ⟨i,es,t⟩ G ⟨hi,hf,hG⟩
  dsimp only at hi hf hG ⊢
  by_cases hil:i < d.sets.styles.length
  · obtain ⟨x,hx⟩:∃ x,d.sets.styles[i]?=some x:=⟨_,List.getElem?_eq_getElem hil⟩
    have ho:=Xu Xa5 d.sets.styles i x hx
    rw [Xak hx,Xs5,List.map_cons,Xgp] at hf
    obtain ⟨ic,hic⟩:∃ ic,ic=id:=⟨_,rfl⟩
    rw [← hic] at hG ⊢
    repeat(first|refine Zd1 ?_|refine Xj rfl rfl (by decide) (Xf (cells:=d.sets.styles.flatMap Xt) rfl rfl rfl (by omega) (by exact ho)) ?_|(refine ZA ?_;intro G hG)|(refine ZD ?_;intro id G hG))
    refine Xb7 (L:=(id,⟨Xt x,100,true⟩)::(ic,ckB ⟨ic,is,il,ir,ib,iu⟩ 0)::(is,XM kyI es t)::(il,XM kyI [] 0)::(ir,XM kyI [] 0)::(ib,XM kyI [] 0)::(iu,XM kyI [] 0)::(bd,⟨X3 d,53,true⟩)::K) hG ?_
    clear hG
    intro G hG
    obtain ⟨H1,e1⟩:∃ X,X=G.set is (some (XM kyI (Xgt es t x.id (I x.kind)) (Xgu es t x.id))):=⟨_,rfl⟩
    have hG1:=hG.set (k:=2) rfl (XM kyI (Xgt es t x.id (I x.kind)) (Xgu es t x.id))
    rw [← e1] at hG1
    refine XjU [8] [H1] H1 mixed (by decide +kernel) (N:=1) (by decide +kernel) rfl ?_
    repeat(first|refine Zbt ?_|refine ZcO ?_|refine F_s 0 rfl (by decide +kernel) rfl rfl rfl rfl (Xcz (XcQ .i64) rfl rfl rfl rfl (hG.get 2 _ _ rfl)) e1 ?_|refine Zd8 ?_)
    have hG:=hG1
    repeat(first|refine Zd1 ?_)
    exact ⟨(i+1,Xgt es t x.id (I x.kind),Xgu es t x.id),by dsimp only;omega,.cons rfl (.cons rfl (.cons rfl (.cons rfl (.cons rfl (.nil _))))),by dsimp only;omega,hf,hG.tail⟩
  rw [List.drop_eq_nil_of_le (by omega),Xs5,List.map_nil,Xgp] at hf
  repeat(first|refine Zd1 ?_|refine ZR ?_)
  refine Xg (S:=Nat × XbC Int × Nat) (fun x=>[(1,.ptr bd 0),(3,.ptr id 0),(36,Xdk d.sets.lists),(37,I d.sets.lists.length),(38,I x.1)])
    (fun x G=>x.1≤d.sets.lists.length∧Xgp (Xtg (d.sets.lists.drop x.1)) x.2.1 x.2.2=q2∧Has G ((id,ckB ⟨id,is,il,ir,ib,iu⟩ 0)::(is,XM kyI es t)::(il,XM kyI x.2.1 x.2.2)::(ir,XM kyI [] 0)::(ib,XM kyI [] 0)::(iu,XM kyI [] 0)::(bd,⟨X3 d,53,true⟩)::K)) (fun x=>d.sets.lists.length - x.1) (0,[],0)
    (.cons rfl (.cons rfl (.cons rfl (.cons rfl (.cons rfl (.nil _)))))) ⟨Nat.zero_le _,hq2,hG⟩ ?_
  clear hG hq2
  rintro ⟨j,el,tl⟩ G ⟨hj,hf2,hG⟩
  dsimp only at hj hf2 hG ⊢
  by_cases hjl:j < d.sets.lists.length
  · obtain ⟨x,hx⟩:∃ x,d.sets.lists[j]?=some x:=⟨_,List.getElem?_eq_getElem hjl⟩
    have ho:=Xu XlN d.sets.lists j x hx
    rw [Xak hx,Xtg,List.map_cons,Xgp] at hf2
    obtain ⟨ic,hic⟩:∃ ic,ic=id:=⟨_,rfl⟩
    rw [← hic] at hG ⊢
    repeat(first|refine Zd1 ?_|refine Xj rfl rfl (by decide) (Xf (cells:=d.sets.lists.flatMap XaE) rfl rfl rfl (by omega) (by exact ho)) ?_|(refine ZA ?_;intro G hG)|(refine ZD ?_;intro id G hG))
    refine Xb7 (L:=(id,⟨XaE x,103,true⟩)::(ic,ckB ⟨ic,is,il,ir,ib,iu⟩ 0)::(is,XM kyI es t)::(il,XM kyI el tl)::(ir,XM kyI [] 0)::(ib,XM kyI [] 0)::(iu,XM kyI [] 0)::(bd,⟨X3 d,53,true⟩)::K) hG ?_
    clear hG
    intro G hG
    obtain ⟨H1,e1⟩:∃ X,X=G.set il (some (XM kyI (Xgt el tl x.id (B true)) (Xgu el tl x.id))):=⟨_,rfl⟩
    have hG1:=hG.set (k:=3) rfl (XM kyI (Xgt el tl x.id (B true)) (Xgu el tl x.id))
    rw [← e1] at hG1
    refine ZdO ?_
    repeat(first|refine Zbt ?_|refine ZcO ?_|refine F_s 0 rfl (by decide +kernel) rfl rfl rfl rfl (Xcz (XcQ .i64) rfl rfl rfl rfl (hG.get 3 _ _ rfl)) e1 ?_|refine Zd8 ?_)
    have hG:=hG1
    repeat(first|refine Zd1 ?_)
    exact ⟨(j+1,Xgt el tl x.id (B true),Xgu el tl x.id),by dsimp only;omega,.cons rfl (.cons rfl (.cons rfl (.cons rfl (.cons rfl (.nil _))))),by dsimp only;omega,hf2,hG.tail⟩
  rw [List.drop_eq_nil_of_le (by omega),Xtg,List.map_nil,Xgp] at hf2
  repeat(first|refine Zd1 ?_|refine ZR ?_)
  refine Xg (S:=Nat × XbC Int × Nat) (fun x=>[(3,.ptr id 0),(50,XdA d.revs),(51,I d.revs.length),(52,I x.1)])
    (fun x G=>x.1≤d.revs.length∧Xgp (Xta (d.revs.drop x.1)) x.2.1 x.2.2=q3∧Has G ((id,ckB ⟨id,is,il,ir,ib,iu⟩ 0)::(is,XM kyI es t)::(il,XM kyI el tl)::(ir,XM kyI x.2.1 x.2.2)::(ib,XM kyI [] 0)::(iu,XM kyI [] 0)::(bd,⟨X3 d,53,true⟩)::K)) (fun x=>d.revs.length - x.1) (0,[],0)
    (.cons rfl (.cons rfl (.cons rfl (.cons rfl (.nil _))))) ⟨Nat.zero_le _,hq3,hG⟩ ?_
  clear hG hq3
  rintro ⟨k,er,tr⟩ G ⟨hk,hf3,hG⟩
  dsimp only at hk hf3 hG ⊢
  by_cases hkl:k < d.revs.length
  · obtain ⟨x,hx⟩:∃ x,d.revs[k]?=some x:=⟨_,List.getElem?_eq_getElem hkl⟩
    have ho:=Xu (enc:=Xcn) (sz:=3) (fun x=>by cases x;rfl) d.revs k x hx
    rw [Xak hx,Xta,List.map_cons,Xgp] at hf3
    obtain ⟨ic,hic⟩:∃ ic,ic=id:=⟨_,rfl⟩
    rw [← hic] at hG ⊢
    repeat(first|refine Zd1 ?_|refine Xj rfl rfl (by decide) (Xf (cells:=d.revs.flatMap Xcn) rfl rfl rfl (by omega) (by exact ho)) ?_|(refine ZA ?_;intro G hG)|(refine ZD ?_;intro id G hG))
    refine Xb7 (L:=(id,⟨Xcn x,133,true⟩)::(ic,ckB ⟨ic,is,il,ir,ib,iu⟩ 0)::(is,XM kyI es t)::(il,XM kyI el tl)::(ir,XM kyI er tr)::(ib,XM kyI [] 0)::(iu,XM kyI [] 0)::(bd,⟨X3 d,53,true⟩)::K) hG ?_
    clear hG
    intro G hG
    obtain ⟨H1,e1⟩:∃ X,X=G.set ir (some (XM kyI (Xgt er tr x.id (B true)) (Xgu er tr x.id))):=⟨_,rfl⟩
    have hG1:=hG.set (k:=4) rfl (XM kyI (Xgt er tr x.id (B true)) (Xgu er tr x.id))
    rw [← e1] at hG1
    refine ZdO ?_
    repeat(first|refine Zbt ?_|refine ZcO ?_|refine F_s 0 rfl (by decide +kernel) rfl rfl rfl rfl (Xcz (XcQ .i64) rfl rfl rfl rfl (hG.get 4 _ _ rfl)) e1 ?_|refine Zd8 ?_)
    have hG:=hG1
    repeat(first|refine Zd1 ?_)
    exact ⟨(k+1,Xgt er tr x.id (B true),Xgu er tr x.id),by dsimp only;omega,.cons rfl (.cons rfl (.cons rfl (.cons rfl (.nil _)))),by dsimp only;omega,hf3,hG.tail⟩
  rw [List.drop_eq_nil_of_le (by omega),Xta,List.map_nil,Xgp] at hf3
  repeat(first|refine Zd1 ?_)
  refine XG rfl rfl ⟨⟨id,is,il,ir,ib,iu⟩,rfl,CkH.cut [(bd,⟨X3 d,53,true⟩)] ⟨es,el,er,[],[],t,tl,tr,0,0,hG,fun k=>?_,fun k=>?_,fun k=>?_,fun k=>rfl,fun k=>rfl,?_⟩⟩
  · subst hf;exact Xvn o1 k
  · subst hf2;exact Xp6 o2 k
  · subst hf3;exact Xp6 o3 k
  · subst hf;subst hf2;subst hf3;rfl
end Go.Proofs.YtlcphjcpoinolaaGreat
