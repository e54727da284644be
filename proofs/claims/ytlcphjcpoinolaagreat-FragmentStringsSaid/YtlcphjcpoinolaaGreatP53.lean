/- Part of the proof: the walk over the program and its laws: Jh Ji. -/
import Derived.Test.YtlcphjcpoinolaaGreatP0
import Derived.Test.YtlcphjcpoinolaaGreatP52
import Derived.Test.YtlcphjcpoinolaaGreatP49
import Derived.Test.YtlcphjcpoinolaaGreatP33
set_option linter.unusedVariables false
namespace Go.Proofs.YtlcphjcpoinolaaGreat
open Go.RowKit Go.Th
set_option maxRecDepth 20000
theorem Xjd (s:CkS) (e0:Int) (h1:1≤e0) (h2:e0≤10):Xcb s e0 XcZ=0:=by
  unfold Xcb XcZ
  have a1:Xb0 e0 []=0:=by
    unfold Xb0
    rw [if_neg (by omega),if_neg (by omega),XqH]
  have a2:XiY s []=0:=rfl
  have a3:inF 0 0 1073741824=true:=rfl
  have a4:XeP s e0 ⟨[],0,0,[],[]⟩=0:=rfl
  dsimp only
  rw [if_pos a1,if_pos a2,if_neg (fun h=>h.1 rfl),a3,if_neg (by decide),if_neg (fun h=>h.1 rfl)]
  exact a4
theorem XnP:XaZ ByteArray.empty=true:=by
  have:=Xj0 [] (fun p h=>by cases h)
  exact this
theorem Xh4 (n:Int) (h0:0≤n) (h1:n≤1000000):IntKind.i64.wrap n=n:=by rw [IntKind.wrap_i64];omega
theorem Xoh {x:Item} (h:okJ x) (s:CkS) (hu:0≤s.units) (hb:s.units+(wrI x).length≤100000) :
    (XbO x ⟨true,false,0⟩ s).1=0∧0≤(XbO x ⟨true,false,0⟩ s).2.units∧(XbO x ⟨true,false,0⟩ s).2.units≤s.units+(wrI x).length:=by
  have hu1:∀ n:Int,s.units+(wrI x).length=n→(1:Int)≤(wrI x).length→(XeN s 1).units=s.units+1:=fun n hn h1=>by
    show IntKind.i64.wrap (s.units+1)=_
    exact Xh4 _ (by omega) (by omega)
  have plain:∀ (k c:Int),(k=2∧c=0∨k=4∧(c=1∨c=2∨c=3))→Xbh k c 0 ByteArray.empty 0 0=0:=by
    intro k c hk
    have e0:Xff ByteArray.empty ByteArray.empty=true:=(Xfn _ _).2 rfl
    have g1:inF k 1 8=true:=by
      unfold inF
      rw [decide_eq_true_iff]
      omega
    have g2:XwI k c=true:=by
      unfold XwI inF
      rcases hk with ⟨rfl,rfl⟩ | ⟨rfl,rfl | rfl | rfl⟩ <;> decide
    have g3:XgJ k c 0 ByteArray.empty 0 0=false:=by
      unfold XgJ
      rw [if_neg (by rcases hk with ⟨rfl,rfl⟩ | ⟨rfl,rfl | rfl | rfl⟩ <;> decide),if_neg (fun h=>h.2 rfl),if_neg (fun h=>by rw [e0] at h;cases h.2),if_neg (by omega)]
      exact decide_eq_false (by omega)
    have g4:Xc3 k c ByteArray.empty=0:=by
      unfold Xc3
      rw [XnP,if_neg (by decide),if_neg (by omega),if_neg (by omega),if_neg (fun h=>by
        have:=h.1
        unfold stF at this
        rw [if_neg (by omega)] at this;cases this)]
    unfold Xbh
    rw [g1,g2,g3,if_neg (by decide),if_neg (by decide),if_neg (by decide),g4]
  rcases h with rfl | ⟨c,hc,rfl⟩ | ⟨qs,h0,hp,rfl⟩
  · have hw:(wrI itP).length=1:=rfl
    have e:XbO itP ⟨true,false,0⟩ s=(0,XeN s 1):=by
      unfold itP
      rw [XbO]
      have hf:=plain 2 0 (.inl ⟨rfl,rfl⟩)
      have hpre:XdD 2 0 ByteArray.empty ⟨true,false,0⟩ (XeN s 1)=(0,XeN s 1):=rfl
      simp only [List.length_nil]
      rw [if_pos hf,hpre]
      dsimp only
      rw [if_pos rfl,if_pos (Xjd _ 2 (by omega) (by omega)),if_neg (by decide),if_neg (by decide)]
    rw [e]
    dsimp only
    rw [hw] at hb hu1 ⊢
    rw [hu1 _ rfl (by omega)]
    exact ⟨rfl,by omega,by omega⟩
  · have hw:(wrI (itB c)).length=1:=rfl
    have e:XbO (itB c) ⟨true,false,0⟩ s=(0,XeN s 1):=by
      unfold itB
      rw [XbO]
      have hf:=plain 4 c (.inr ⟨rfl,hc⟩)
      have hpre:XdD 4 0 ByteArray.empty ⟨true,false,0⟩ (XeN s 1)=(0,XeN s 1):=rfl
      simp only [List.length_nil]
      rw [if_pos hf,hpre]
      dsimp only
      rw [if_pos rfl,if_pos (Xjd _ 4 (by omega) (by omega)),if_neg (by decide),if_neg (by decide)]
    rw [e]
    dsimp only
    rw [hw] at hb hu1 ⊢
    rw [hu1 _ rfl (by omega)]
    exact ⟨rfl,by omega,by omega⟩
  · have hv:=Xj0 qs hp
    have hw:wrI (itT (txt (qs.flatMap Xat)))=qs.flatMap Xat:=by
      unfold itT txt
      rw [XnI]
    rw [hw] at hb hu1 ⊢
    have hn:qs.flatMap Xat≠[]:=by
      cases qs with
      | nil=>exact absurd rfl h0
      | cons p qs =>
        rw [List.flatMap_cons]
        intro e
        exact XeH p (List.append_eq_nil_iff.1 e).1
    have hl:=List.length_pos_iff.2 hn
    have hcf:Xcu (txt (qs.flatMap Xat))≤(qs.flatMap Xat).length:=by
      have:=Xjz (txt (qs.flatMap Xat)) (txt (qs.flatMap Xat)).size
      rw [Xaf] at this
      unfold Xcu
      rw [Xaf]
      exact this
    have hne:=Xs1 hn
    generalize qs.flatMap Xat=u at *
    have e:XbO (itT (txt u)) ⟨true,false,0⟩ s=(0,XeN (XeN s 1) (IntKind.i64.wrap ((Xcu (txt u):Int) - 1))):=by
      unfold itT
      rw [XbO]
      have hf:Xbh 1 0 0 (txt u) 0 0=0:=by
        unfold Xbh
        have g2:XwI 1 0=true:=rfl
        have g3:XgJ 1 0 0 (txt u) 0 0=false:=by
          unfold XgJ
          rw [if_neg (fun h=>h.2 rfl),if_neg (fun h=>h.2 rfl),if_neg (fun h=>by cases h.1),if_neg (by omega)]
          exact decide_eq_false (by omega)
        rw [if_neg (by decide),g2,if_neg (by decide),g3,if_neg (by decide)]
        unfold Xc3
        rw [hv,if_neg (by decide)]
        rw [if_neg (fun h=>by
          have h2:=h.2
          have:Xff (txt u) ByteArray.empty=Xff (txt u) ⟨#[]⟩:=rfl
          rw [this,hne] at h2;cases h2),if_neg (fun h=>by cases h.1),if_neg (fun h=>by
          have:=h.1
          unfold stF at this
          rw [if_neg (by omega)] at this;cases this)]
      have hpre:XdD 1 0 (txt u) ⟨true,false,0⟩ (XeN s 1)=(0,XeN (XeN s 1) (IntKind.i64.wrap ((Xcu (txt u):Int) - 1))):=by
        unfold XdD
        rw [if_pos rfl,hv,if_pos rfl]
      simp only [List.length_nil]
      rw [if_pos hf,hpre]
      dsimp only
      rw [if_pos rfl,if_pos (Xjd _ 1 (by omega) (by omega)),if_neg (by decide),if_neg (by decide)]
    rw [e]
    have u1:=hu1 _ rfl (by omega)
    have u2:(XeN (XeN s 1) (IntKind.i64.wrap ((Xcu (txt u):Int) - 1))).units=s.units+Xcu (txt u):=by
      show IntKind.i64.wrap ((XeN s 1).units+_)=_
      rw [u1]
      have w1:IntKind.i64.wrap ((Xcu (txt u):Int) - 1)=(Xcu (txt u):Int) - 1:=by rw [IntKind.wrap_i64];omega
      rw [w1,Xh4 _ (by omega) (by omega)]
      omega
    dsimp only
    rw [u2]
    exact ⟨rfl,by omega,by omega⟩
theorem Xhd:∀ {l:List Item} (s:CkS),(∀ y ∈ l,okJ y)→0≤s.units→s.units+(wrF l).length≤100000 →
    (Xa6 l ⟨true,false,0⟩ s).1=0∧(Xa6 l ⟨true,false,0⟩ s).2.units≤s.units+(wrF l).length
  | [],s,_,h0,_=>by rw [Xa6];exact ⟨rfl,by show s.units≤s.units+0;omega⟩
  | x::l,s,h,h0,h1=>by
    have hw:(wrF (x::l)).length=(wrI x).length+(wrF l).length:=by unfold wrF;rw [List.flatMap_cons,List.length_append]
    rw [hw] at h1 ⊢
    obtain ⟨a,b,c⟩:=Xoh (h x List.mem_cons_self) s h0 (by omega)
    rw [Xa6,if_pos a]
    obtain ⟨d,e⟩:=Xhd (XbO x ⟨true,false,0⟩ s).2 (fun y hy=>h y (List.mem_cons_of_mem _ hy)) b (by omega)
    exact ⟨d,by omega⟩
theorem XkR {l:List Item} (h:∀ y ∈ l,okJ y) (hw:(wrF l).length≤10000):XwD 0 0 (Xcq l [] [])=0:=by
  have e1:XaA [0,0]=0:=rfl
  have e2:XaA [Xcb (XlI (Xcq l [] [])) 3 (Xcq l [] []).fin,Xbv (XlL (Xcq l [] []).fin) 21]=0:=by
    have:=Xjd (XlI (Xcq l [] [])) 3 (by omega) (by omega)
    show XaA [Xcb (XlI (Xcq l [] [])) 3 XcZ,0]=0
    rw [this];rfl
  obtain ⟨a,b⟩:=Xhd (XlI (Xcq l [] [])) h (Int.le_refl 0) (by show (0:Int)+_≤_;omega)
  unfold XwD
  rw [if_pos e1,if_pos e2]
  show (if (Xa6 l ⟨true,false,0⟩ (XlI (Xcq l [] []))).1=0 then _ else _)=_
  rw [if_pos a]
  have b:(Xa6 l ⟨true,false,0⟩ (XlI (Xcq l [] []))).2.units≤0+(wrF l).length:=b
  show Xbv (decide ((16384:Int) < (Xa6 l ⟨true,false,0⟩ (XlI (Xcq l [] []))).2.units)) 9=0
  rw [decide_eq_false (by omega)];rfl
theorem sms0:SmS ⟨[],[],[],[]⟩:=⟨by simp,by simp,by simp,by simp,fun j x h=>by simp at h,fun j x h=>by simp at h⟩
theorem Xmx (l:List Item) (hc:Xz l≤300) (h:∀ y ∈ l,okJ y) (hw:(wrF l).length≤10000):Iso Tryz.prog 19 [.agg (X3 (Xcq l [] []))] (fun p=>p=I 0):=by
  have a1:Iso Tryz.prog 104 [XL []] (fun p=>p=I 0):=Xj7 [] (by simp) (fun x hx=>by cases hx)
  have a2:Iso Tryz.prog 105 [Xdk []] (fun p=>p=I 0):=Xh0 [] (by simp) (fun _=>0) (fun i hi=>absurd hi (by simp))
  have a3:Iso Tryz.prog 106 [X9 []] (fun p=>p=I 0):=Xf8 [] (by simp) (fun _=>0) (fun i hi=>absurd hi (by simp))
  have a4:Iso Tryz.prog 107 [Xds []] (fun p=>p=I 0):=XjE [] (by simp) (fun _=>0) (fun i hi=>absurd hi (by simp))
  have a5:Iso Tryz.prog 46 [.agg (XaW ⟨[],[],[],[]⟩)] (fun p=>p=I 0):=Xf7 ⟨[],[],[],[]⟩ 0 0 0 0 a1 a2 a3 a4
  have a6:Iso Tryz.prog 47 [XdA []] (fun p=>p=I 0):=XjF [] (by simp) (fun _=>0) (fun i hi=>absurd hi (by simp))
  have a7:=XkT (Xcq l [] []) hc ⟨by simp [Xcq,XcZ],by simp [Xcq,XcZ],by simp [Xcq,XcZ]⟩ (by simp [Xcq]) (by simp [Xcq]) (by simp [Xcq]) 0 0 a5 a6 (Xan _) (Xdt _) (Xa9 _)
  rw [XkR h hw] at a7
  exact a7
theorem XqP:∀ {l:List Item},(∀ y ∈ l,okJ y)→XoH l=false
  | [],_=>rfl
  | x::l,h=>by
    unfold XoH
    rw [Xb6]
    have e:Xos XwT Xly false x=false:=by
      rcases h x List.mem_cons_self with rfl | ⟨c,_,rfl⟩ | ⟨qs,_,_,rfl⟩
      · unfold itP;rw [Xos,Xb6,Xfu];rfl
      · unfold itB;rw [Xos,Xb6,Xfu];rfl
      · unfold itT;rw [Xos,Xb6,Xfu];rfl
    rw [e]
    exact XqP fun y hy=>h y (List.mem_cons_of_mem _ hy)
theorem Xto:∀ {l:List Item},(∀ y ∈ l,okJ y)→Xfg l=[]
  | [],_=>by rw [Xfg]
  | x::l,h=>by
    rw [Xfg,Xto fun y hy=>h y (List.mem_cons_of_mem _ hy),List.append_nil]
    rcases h x List.mem_cons_self with rfl | ⟨c,_,rfl⟩ | ⟨qs,_,_,rfl⟩
    · unfold itP;rw [idA,Xfg,Xhh];rfl
    · unfold itB;rw [idA,Xfg,Xhh];rfl
    · unfold itT;rw [idA,Xfg,Xhh];rfl
theorem XjI (l:List Item) (hc:Xz l≤300) (h:∀ y ∈ l,okJ y) (hw:(wrF l).length≤10000) (hn:XaF l=l):Iso Tryz.prog 7 [.agg (XdO l [] [])] (fun p=>p=I 0):=by
  have:=XqI l [] [] hc sms0 0 (Xmx l hc h hw) (fun _=>Xsq (XkR h hw))
  rw [XqP h,Xto h,hn,XbA] at this
  exact this
theorem Xjg:∀ {a b:List Item},Xad a→Xad b→Xad (a++b)
  | [],b,_,h=>h
  | x::a,b,h,k=>by
    rw [Xad] at h
    rw [List.cons_append,Xad]
    exact ⟨h.1,Xjg h.2 k⟩
theorem XrO {out:List Item} {q:List Nat} (h:Pcs out q):(q.flatMap Xat).length≤400→Xz out≤q.length∧Xad out:=by
  induction h with
  | nil=>intro _;exact ⟨Nat.le_refl _,by rw [Xad];trivial⟩
  | @txt out q qs _ h0 _ ih =>
    intro hl
    rw [List.flatMap_append,List.length_append] at hl
    obtain ⟨a,b⟩:=ih (by omega)
    have h1:=List.length_pos_iff.2 h0
    have h2:0 < (qs.flatMap Xat).length:=by
      cases qs with
      | nil=>exact absurd rfl h0
      | cons p r =>
        rw [List.flatMap_cons,List.length_append]
        have:=List.length_pos_iff.2 (XeH p)
        omega
    refine ⟨?_,Xjg b ?_⟩
    · rw [XcD,List.length_append]
      unfold itT
      simp only [Xz,XbH,XbZ,Xjw,XcZ,List.length_nil,Xaf]
      omega
    · unfold itT
      rw [Xad,Xf1,Xad,XbW]
      exact ⟨⟨fun e=>absurd e (by decide),fun _=>by rw [Xaf];omega,trivial,trivial⟩,trivial⟩
  | @brk out q p _ hb ih =>
    intro hl
    rw [List.flatMap_append,List.length_append] at hl
    obtain ⟨a,b⟩:=ih (by omega)
    have hp:=of_decide_eq_true hb
    have hx:itN p=itP∨∃ c,itN p=itB c:=by
      unfold itN
      rcases hp with rfl | rfl | rfl | rfl
      · exact .inl rfl
      · exact .inr ⟨1,rfl⟩
      · exact .inr ⟨2,rfl⟩
      · exact .inr ⟨3,rfl⟩
    have hc:Xz [itN p]=1:=by
      rcases hx with e | ⟨c,e⟩ <;> rw [e] <;> rfl
    have hf:Xad [itN p]:=by
      rcases hx with e | ⟨c,e⟩
      · rw [e]
        unfold itP
        rw [Xad,Xf1,Xad,XbW]
        exact Zd0
      · rw [e]
        unfold itB
        rw [Xad,Xf1,Xad,XbW]
        exact Zd0
    refine ⟨?_,Xjg b hf⟩
    rw [XcD,List.length_append,hc,List.length_singleton]
    omega
theorem Xr7 (p:Nat):XbH (itN p)=1:=by
  unfold itN
  split
  · rfl
  split
  · rfl
  split
  · rfl
  split
  · rfl
  · unfold itT
    have h2:=Xjs p
    rw [← Xfy] at h2
    simp only [XbH,Xz,XbZ,Xjw,XcZ,List.length_nil,Xaf]
    omega
theorem Xpt:∀ (q:List Nat),Xz (q.map itN)=q.length
  | []=>rfl
  | p::q=>by rw [List.map_cons,Xz,Xr7,Xpt q,List.length_cons];omega
theorem Xtc:∀ (q:List Nat),Xad (q.map itN)
  | []=>by rw [List.map_nil,Xad];trivial
  | p::q=>by
    rw [List.map_cons,Xad]
    refine ⟨?_,Xtc q⟩
    unfold itN
    split
    · unfold itP;rw [Xf1,Xad,XbW];exact ⟨fun e=>absurd e (by decide),fun e=>absurd e (by decide),trivial,trivial⟩
    split
    · unfold itB;rw [Xf1,Xad,XbW];exact ⟨fun e=>absurd e (by decide),fun e=>absurd e (by decide),trivial,trivial⟩
    split
    · unfold itB;rw [Xf1,Xad,XbW];exact ⟨fun e=>absurd e (by decide),fun e=>absurd e (by decide),trivial,trivial⟩
    split
    · unfold itB;rw [Xf1,Xad,XbW];exact ⟨fun e=>absurd e (by decide),fun e=>absurd e (by decide),trivial,trivial⟩
    · unfold itT;rw [Xf1,Xad,XbW]
      refine ⟨fun e=>absurd e (by decide),fun _=>?_,trivial,trivial⟩
      rw [Xaf,Xfy]
      have:=Xjs p
      omega
end Go.Proofs.YtlcphjcpoinolaaGreat
namespace Go.Proofs.YtlcphjcpoinolaaGreat
open Go.RowKit Go.Th
set_option maxRecDepth 20000
set_option maxHeartbeats 8000000 in
theorem XsW (s:ByteArray) (hs:s.size≤1000000) (hv:XaZ s=false):Iso Tryz.prog 9 [S s] (fun p=>p=.tup [.agg [Xaw,Xaw,Xaw],I 12]):=by
  have hG:=Xc
  have hct:=XhQ s hs
  rw [hv,if_neg (by decide),if_neg (by decide)] at hct
  have ts:∀ c ∈ [S s],Xi c:=TreeL.cons (XX _) TreeL.nil
  refine Xb Tryz.func9 rfl rfl rfl ?_
  repeat(first|refine Zd1 ?_|(refine Xr rfl rfl rfl rfl rfl rfl (by decide) hct ts ?_;rintro _ rfl)|refine ZS ?_|refine Z5 ?_|(refine ZA ?_;intro G hG)|(refine ZD ?_;intro id G hG))
  exact Xfr rfl rfl (XaR (hG.get 0 _ _ rfl)) rfl (.refl _) (.refl _) (Xi.agg (TreeL.cons (.v _) (TreeL.cons (.v _) (TreeL.cons (.v _) TreeL.nil)))) (Xe _) rfl
theorem XmY (l:List Item):Wk (.agg [Xk l,Xaw,Xaw]) (.agg (XdO l [] [])):=Wk.agg (.cons (.refl _) (.cons (.nil _) (.cons (.nil _) .nil)))
theorem Xs0:Wk (.agg [Xaw,Xaw,Xaw]) (.agg (XdO [] [] [])):=Wk.agg (.cons (.nil _) (.cons (.nil _) (.cons (.nil _) .nil)))
set_option maxHeartbeats 32000000 in
theorem Xlw (s0:ByteArray) (hk:Iso Tryz.prog 5 [] (fun p=>p=B true)):Iso Tryz.prog 4 [S s0] (fun p=>p=B true):=by
  have hG:=Xc
  have hmin:(.v (.int .i64 (min (s0.size:Int) 300)):PV)=I ((min s0.size 300:Nat):Int):=by
    have:min (s0.size:Int) 300=((min s0.size 300:Nat):Int):=by omega
    rw [this];rfl
  refine Xb Tryz.func4 rfl rfl rfl ?_
  repeat refine X4 ?_
  refine Zb ?_
  repeat(first|refine Zd ?_)
  refine Za ?_
  repeat refine X4 ?_
  refine Zb ?_
  repeat(first|refine Xj rfl rfl (by decide) (OpV.same (XmN rfl rfl rfl) hmin) ?_|refine Xj rfl rfl (by decide) (XbN (kl:=.i64) (kh:=.i64) (l:=0) (h:=min s0.size 300) rfl rfl rfl rfl ⟨by omega,by omega⟩) ?_|refine Zd5 ?_|refine ZO ?_)
  refine Za ?_
  have hsz:(s0.extract 0 (min s0.size 300)).size≤300:=by rw [ByteArray.size_extract];omega
  generalize s0.extract 0 (min s0.size 300)=s at hsz ⊢
  have hvi:=Xby s (by omega)
  have ts:∀ c ∈ [S s],Xi c:=TreeL.cons (XX _) TreeL.nil
  cases hv:XaZ s with
  | false =>
    rw [hv] at hvi
    have hfr:=XsW s (by omega) hv
    have heq:=Xlg (XkK [] [] [] [] [] []) (.cons Xs0 (.cons Xs0 .nil))
    rw [XbA] at heq
    have te:∀ c ∈ [PV.agg [Xaw,Xaw,Xaw],PV.agg [Xaw,Xaw,Xaw]],Xi c:=TreeL.cons (Xi.agg (TreeL.cons (.v _) (TreeL.cons (.v _) (TreeL.cons (.v _) TreeL.nil)))) (TreeL.cons (Xi.agg (TreeL.cons (.v _) (TreeL.cons (.v _) (TreeL.cons (.v _) TreeL.nil)))) TreeL.nil)
    repeat(first|refine Zd1 ?_|(refine Xr rfl rfl rfl rfl rfl rfl (by decide) hfr ts ?_;rintro _ rfl)|(refine Xr rfl rfl rfl rfl rfl rfl (by decide) hk TreeL.nil ?_;rintro _ rfl)|(refine Xr rfl rfl rfl rfl rfl rfl (by decide) hvi ts ?_;rintro _ rfl)|(refine Xr rfl rfl rfl rfl rfl rfl (by decide) heq te ?_;rintro _ rfl)|refine ZS ?_|refine Z5 ?_|(refine ZA ?_;intro G hG)|(refine ZD ?_;intro id G hG))
    exact Zbm
  | true =>
    rw [hv] at hvi
    obtain ⟨q,e1,e2,e3,e4⟩:=Xo1 s hv
    have hql:(q.flatMap Xat).length≤300:=by
      have:=congrArg ByteArray.size e4
      rw [Xaf] at this;omega
    have hqn:q.length≤300:=by omega
    have hcn:Xcu s≤16384:=by
      have:=Xjz s s.size
      unfold Xcu;omega
    have hnm:∀ out,Pcs out q→Iso Tryz.prog 32 [Xk out] (fun p=>p=Xk (XaF (q.map itN))):=fun out h=>by
      obtain ⟨a,b⟩:=XrO h (by omega)
      have:=XfU out (by omega) b
      rw [h.norm] at this
      exact this
    have hnq:=XfU (q.map itN) (by rw [Xpt];omega) (Xtc q)
    have hfr:=XsV s q e4 e2 (by omega) hv hcn (by omega) hnm
    have hft:=XkC s q e1 e2 (by omega) hv (by omega) hnq
    have hok:=XpF e2
    have hwr:=XtD q
    have hnn:=XpG e2
    have hjc:Xz (XaF (q.map itN))≤300:=by
      have:=Xki (q.map itN)
      rw [Xpt] at this;omega
    generalize XaF (q.map itN)=J at hfr hft hok hwr hnn hjc
    clear hnm hnq
    have hwl:(wrF J).length≤300:=by rw [hwr];exact hql
    have hck:=XjI J hjc hok (by omega) hnn
    have hlen:=XaH J
    have htx:=Xrl J [] [] (by omega) (fun x hx=>Xwl (hok x hx) (by have:=XsY hx;omega)) (by omega) hck
    rw [hwr] at htx
    have hst:(⟨(q.flatMap Xat).toArray⟩:ByteArray)=s:=by rw [e4];rfl
    rw [hst] at htx
    have hck:=Xlg hck (.cons (XmY J) .nil)
    have htx:=Xlg htx (.cons (XmY J) .nil)
    have heq:=Xlg (XkK J J [] [] [] []) (.cons (XmY J) (.cons (XmY J) .nil))
    rw [XbA] at heq
    have tF:Xi (PV.agg [Xk J,Xaw,Xaw]):=Xi.agg (TreeL.cons (XF _) (TreeL.cons (.v _) (TreeL.cons (.v _) TreeL.nil)))
    have tf:∀ c ∈ [PV.agg [Xk J,Xaw,Xaw]],Xi c:=TreeL.cons tF TreeL.nil
    have te:∀ c ∈ [PV.agg [Xk J,Xaw,Xaw],PV.agg [Xk J,Xaw,Xaw]],Xi c:=TreeL.cons tF (TreeL.cons tF TreeL.nil)
    clear hst hlen hwl hjc hnn hwr hok hcn hqn hql e1 e2 e3 e4 hmin
    have hss:Xff s s=true:=(Xfn _ _).2 rfl
    repeat(first|refine Zd1 ?_|(refine Xr rfl rfl rfl rfl rfl rfl (by decide) hfr ts ?_;rintro _ rfl)|(refine Xr rfl rfl rfl rfl rfl rfl (by decide) hk TreeL.nil ?_;rintro _ rfl)|(refine Xr rfl rfl rfl rfl rfl rfl (by decide) hvi ts ?_;rintro _ rfl)|refine ZS ?_|(refine ZA ?_;intro G hG)|(refine ZD ?_;intro id G hG))
    refine Zz ?_
    repeat(first|refine ZV ?_|refine Xty (fun _=>Iso.K rfl rfl rfl rfl hft ts) rfl (by decide) rfl rfl rfl rfl (by decide) ?_|refine Xty (fun _=>Iso.K rfl rfl rfl rfl heq te) rfl (by decide) rfl rfl rfl rfl (by decide) ?_|refine Xty (fun _=>Iso.K rfl rfl rfl rfl hck tf) rfl (by decide) rfl rfl rfl rfl (by decide) ?_|refine Xty (fun _=>Iso.K rfl rfl rfl rfl htx tf) rfl (by decide) rfl rfl rfl rfl (by decide) ?_|refine Xfh (OpV.same (Xa7 rfl rfl rfl) (congrArg B hss)) rfl (by decide) rfl rfl rfl rfl (by decide) ?_|refine Zd2 ?_|refine Xfh (XcX rfl rfl rfl rfl) rfl (by decide) rfl rfl rfl rfl (by decide) ?_)
    repeat(first|refine Zf ?_)
    exact Zbm
end Go.Proofs.YtlcphjcpoinolaaGreat
