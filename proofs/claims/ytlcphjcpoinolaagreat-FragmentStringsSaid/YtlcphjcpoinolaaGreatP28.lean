/- Part of the proof: the walk over the program and its laws: Qf Fc. -/
import Derived.Test.YtlcphjcpoinolaaGreatP0
import Derived.Test.YtlcphjcpoinolaaGreatP23
import Derived.Test.YtlcphjcpoinolaaGreatP3
import Derived.Test.YtlcphjcpoinolaaGreatP27
set_option linter.unusedVariables false
namespace Go.Proofs.YtlcphjcpoinolaaGreat
open Go.RowKit Go.Th
set_option maxRecDepth 20000
def Xpo (H:Xh) (ids:List Nat) (id:Nat):Option (Nat × Blk):=if id ∈ ids then none else match H[id]? with
  | some (some B)=>some (id,B)
  | _=>none
def Xn3 (H:Xh) (ids:List Nat):List (Nat × Blk):=(List.range H.length).filterMap (Xpo H ids)
theorem XfS {H:Xh} {ids:List Nat} {id:Nat} {x:Nat × Blk} (h:Xpo H ids id=some x):x.1=id∧id ∉ ids∧H[id]?=some (some x.2):=by
  unfold Xpo at h
  split at h
  · cases h
  · rename_i hn
    split at h
    · rename_i B hB
      simp only [Option.some.injEq] at h;subst h
      exact ⟨rfl,hn,hB⟩
    · cases h
theorem XrD {H:Xh} {ids:List Nat} {id:Nat} {B:Blk} (h1:id ∉ ids) (h2:H[id]?=some (some B)):Xpo H ids id=some (id,B):=by
  unfold Xpo
  rw [if_neg h1,h2]
theorem Xpn {H:Xh} {ids:List Nat} {id:Nat} {B:Blk} (h1:id ∉ ids) (h2:H[id]?=some (some B)):(id,B) ∈ Xn3 H ids :=
  List.mem_filterMap.2 ⟨id,List.mem_range.2 (List.getElem?_eq_some_iff.1 h2).1,XrD h1 h2⟩
theorem Xke {H:Xh} {ids:List Nat} {x:Nat × Blk} (h:x ∈ Xn3 H ids):x.1 ∉ ids∧H[x.1]?=some (some x.2):=by
  obtain ⟨id,_,h⟩:=List.mem_filterMap.1 h
  obtain ⟨h1,h2,h3⟩:=XfS h
  exact ⟨h1 ▸ h2,h1 ▸ h3⟩
theorem XrC (H:Xh) (ids:List Nat):(Xn3 H ids).Pairwise (fun x y=>x.1≠y.1):=by
  unfold Xn3
  refine List.pairwise_filterMap.2 (List.Pairwise.imp ?_ List.pairwise_lt_range)
  intro a b hab x hx y hy
  rw [(XfS hx).1,(XfS hy).1]
  omega
theorem XsU {H:Xh} {L:List (Nat × Blk)} (h:Has H L):Has H (L++Xn3 H (L.map (·.1))):=by
  obtain ⟨h1,h2⟩:=Xdd.1 h
  refine Xdd.2 ⟨fun x hx=>?_,List.pairwise_append.2 ⟨h2,XrC H _,fun a ha b hb e=>?_⟩⟩
  · rcases List.mem_append.1 hx with hx | hx
    · exact h1 x hx
    · exact (Xke hx).2
  · exact (Xke hb).1 (e ▸ List.mem_map.2 ⟨a,ha,rfl⟩)
def XeT (s s':CkS):Prop:=s'.styles=s.styles∧s'.lists=s.lists∧s'.revs=s.revs∧s'.used=s.used∧s'.e={ s.e with eb:=s'.e.eb,tb:=s'.e.tb }
theorem XeT.refl (s:CkS):XeT s s:=⟨rfl,rfl,rfl,rfl,rfl⟩
theorem XeT.trans {s t u:CkS} (h:XeT s t) (k:XeT t u):XeT s u:=by
  obtain ⟨a1,a2,a3,a4,a5⟩:=h
  obtain ⟨b1,b2,b3,b4,b5⟩:=k
  refine ⟨b1.trans a1,b2.trans a2,b3.trans a3,b4.trans a4,?_⟩
  rw [b5,a5]
def XtJ (c:CkId) (s:CkS) (H:Xh):Xh:=(H.set c.ic (some (ckB c s.units))).set c.ib (some (XM kyI s.e.eb s.e.tb))
theorem XjD {f:FuncId} {args:List PV} {c:CkId} {s s':CkS} {K:List (Nat × Blk)} {H:Xh} {x:Int} (hs:XeT s s') (hc:CkH c s K H)
    (h:∀ K G,CkH c s K G→AC Tryz.prog f args G (fun p G'=>p=I x∧CkH c s' K G')):AC Tryz.prog f args H (fun p G=>p=I x∧G=XtJ c s' H):=by
  obtain ⟨es,el,er,eb,eu,ts,tl,tr,tb,tu,hG,a1,a2,a3,a4,a5,ae⟩:=hc
  refine AC.exact (Q:=fun p=>p=I x) (by simp [XtJ]) fun t=>?_
  have h6:Has H [(c.ic,ckB c s.units),(c.is,XM kyI es ts),(c.il,XM kyI el tl),(c.ir,XM kyI er tr),(c.ib,XM kyI eb tb),(c.iu,XM kyI eu tu)] :=
    Xdd.2 ⟨fun x hx=>(Xdd.1 hG).1 x (List.mem_append_left K hx),((List.pairwise_append (l₁:=[(c.ic,ckB c s.units),(c.is,XM kyI es ts),(c.il,XM kyI el tl),(c.ir,XM kyI er tr),(c.ib,XM kyI eb tb),(c.iu,XM kyI eu tu)])).1 (Xdd.1 hG).2).1⟩
  have hA:=(XsU h6).app (List.replicate t none)
  refine (h _ _ ⟨es,el,er,eb,eu,ts,tl,tr,tb,tu,hA,a1,a2,a3,a4,a5,ae⟩).mono ?_
  rintro p G' ⟨rfl,es',el',er',eb',eu',ts',tl',tr',tb',tu',hG',b1,b2,b3,b4,b5,be⟩
  refine ⟨rfl,⟨_,rfl⟩,fun id B hB=>?_⟩
  have hE:=hs.2.2.2.2
  rw [be,ae] at hE
  simp only [CkE.mk.injEq] at hE
  obtain ⟨rfl,rfl,rfl,_,rfl,rfl,rfl,rfl,_,rfl⟩:=hE
  unfold XtJ at hB
  by_cases e1:id=c.ib
  · subst e1
    have hlt:c.ib < (H.set c.ic (some (ckB c s'.units))).length:=by rw [List.length_set];exact h6.lt (k:=4) rfl
    rw [List.getElem?_set_self hlt] at hB
    simp only [Option.some.injEq] at hB
    subst hB
    have:=hG'.get 4 _ _ rfl
    rw [be];exact this
  rw [List.getElem?_set_ne (fun e=>e1 e.symm)] at hB
  by_cases e2:id=c.ic
  · subst e2
    rw [List.getElem?_set_self (h6.lt (k:=0) rfl)] at hB
    simp only [Option.some.injEq] at hB
    subst hB
    exact hG'.get 0 _ _ rfl
  rw [List.getElem?_set_ne (fun e=>e2 e.symm)] at hB
  by_cases e3:id=c.is
  · subst e3
    have:=h6.get 1 _ _ rfl
    rw [hB] at this;simp only [Option.some.injEq] at this;subst this
    exact hG'.get 1 _ _ rfl
  by_cases e4:id=c.il
  · subst e4
    have:=h6.get 2 _ _ rfl
    rw [hB] at this;simp only [Option.some.injEq] at this;subst this
    exact hG'.get 2 _ _ rfl
  by_cases e5:id=c.ir
  · subst e5
    have:=h6.get 3 _ _ rfl
    rw [hB] at this;simp only [Option.some.injEq] at this;subst this
    exact hG'.get 3 _ _ rfl
  by_cases e6:id=c.iu
  · subst e6
    have:=h6.get 5 _ _ rfl
    rw [hB] at this;simp only [Option.some.injEq] at this;subst this
    exact hG'.get 5 _ _ rfl
  have hm:(id,B) ∈ Xn3 H [c.ic,c.is,c.il,c.ir,c.ib,c.iu]:=Xpn (by simp [e1,e2,e3,e4,e5,e6]) hB
  exact (Xdd.1 hG').1 (id,B) (by
    simp only [List.mem_cons]
    exact .inr (.inr (.inr (.inr (.inr (.inr hm))))))
theorem Xm1 {c:CkId} {s:CkS} {K:List (Nat × Blk)} {H:Xh} (hc:CkH c s K H):XtJ c s H=H:=by
  obtain ⟨es,el,er,eb,eu,ts,tl,tr,tb,tu,hG,a1,a2,a3,a4,a5,ae⟩:=hc
  have set_eq:∀ {H:Xh} {id:Nat} {B:Blk},H[id]?=some (some B)→H.set id (some B)=H:=fun {H id B} h=>by
    refine List.ext_getElem? fun j=>?_
    by_cases e:id=j
    · subst e;rw [List.getElem?_set_self (List.getElem?_eq_some_iff.1 h).1,h]
    · rw [List.getElem?_set_ne e]
  unfold XtJ
  rw [set_eq (hG.get 0 _ _ rfl)]
  refine set_eq ?_
  rw [ae]
  exact hG.get 4 _ _ rfl
theorem Xxq {c:CkId} {s s':CkS} {K:List (Nat × Blk)} {H:Xh} (hs:XeT s s') (h4:∀ k,(Xdr s'.e.eb k).getD (B false)=B (s'.before k)) (hc:CkH c s K H):CkH c s' K (XtJ c s' H):=by
  obtain ⟨es,el,er,eb,eu,ts,tl,tr,tb,tu,hG,a1,a2,a3,a4,a5,ae⟩:=hc
  obtain ⟨c1,c2,c3,c4,c5⟩:=hs
  refine ⟨es,el,er,s'.e.eb,eu,ts,tl,tr,s'.e.tb,tu,(hG.set (k:=0) rfl (ckB c s'.units)).set (k:=4) rfl (XM kyI s'.e.eb s'.e.tb),by rw [c1];exact a1,by rw [c2];exact a2,by rw [c3];exact a3,h4,by rw [c4];exact a5,?_⟩
  rw [c5,ae]
end Go.Proofs.YtlcphjcpoinolaaGreat
namespace Go.Proofs.YtlcphjcpoinolaaGreat
open Go.RowKit Go.Th
set_option maxRecDepth 20000
theorem Xia {l:List Item} {x:Item} (hx:x ∈ l) {n:Nat} (hl:SizeOf.sizeOf l≤n+1) {k c i:Int} {t:ByteArray} {h:Head} {f:List Item} {r:List Row} (e:x=.mk k c i t h f r) :
    SizeOf.sizeOf f≤n∧∀ y ∈ r,∀ h cs,y=.mk h cs→∀ z ∈ cs,∀ i hh f,z=.mk i hh f→SizeOf.sizeOf f≤n:=by
  have hxl:=List.sizeOf_lt_of_mem hx
  subst e
  simp only [Item.mk.sizeOf_spec] at hxl
  refine ⟨by omega,?_⟩
  rintro y hy hh cs rfl z hz j hz2 g rfl
  have h1:=List.sizeOf_lt_of_mem hy
  have h2:=List.sizeOf_lt_of_mem hz
  simp only [Row.mk.sizeOf_spec] at h1
  simp only [Cell.mk.sizeOf_spec] at h2
  omega
theorem XoB {l:List Item} (hc:Xz l≤300) {x:Item} (hx:x ∈ l) {k c i:Int} {t:ByteArray} {h:Head} {f:List Item} {r:List Row} (e:x=.mk k c i t h f r) :
    Xz f≤300∧∀ y ∈ r,∀ h cs,y=.mk h cs→∀ z ∈ cs,∀ i hh f,z=.mk i hh f→Xz f≤300:=by
  have h1:=XcC hx
  subst e
  rw [XbH] at h1
  refine ⟨by omega,?_⟩
  rintro y hy hh cs rfl z hz j hz2 g rfl
  have h2:=XcB hy
  rw [XfA] at h2
  have h3:=XcE hz
  rw [XfB] at h3
  omega
theorem Xob {σ:Type} (W:σ→List (Nat × Blk)→Prop) (kS:σ→Item→σ) (g:FuncId) (cap:List PV)
    (hK:∀ (s:σ) (A:List (Nat × Blk)) (G:Xh) (K:List (Nat × Blk)) (x:Item),W s A→Has G (A++K)→AC Tryz.prog g ([.agg (Xl x)]++cap) G (fun p G'=>p=B true∧∃ A',W (kS s x) A'∧Has G' (A'++K))) :
    ∀ (n:Nat) (l:List Item),SizeOf.sizeOf l≤n→Xz l≤300→XA0 W kS g cap l:=by
  intro n
  induction n with
  | zero=>intro l hl;cases l <;> simp at hl <;> omega
  | succ n ih =>
    intro l hl hc
    refine XpK W kS g cap hK l hc fun x hx k c i t h f r e=>?_
    obtain ⟨a1,a2⟩:=Xia hx hl e
    obtain ⟨b1,b2⟩:=XoB hc hx e
    exact ⟨ih f a1 b1,fun y hy h cs e z hz i hh f e2=>ih f (a2 y hy h cs e z hz i hh f e2) (b2 y hy h cs e z hz i hh f e2)⟩
def XwT (b:Bool):Item→Bool
  | .mk k _ _ _ _ _ _=>if b=true then true else decide (k=8)
def XAM (fb:Nat) (b:Bool) (A:List (Nat × Blk)):Prop:=A=[(fb,⟨[B b],4,true⟩)]
set_option maxHeartbeats 8000000 in
theorem XsL (fb:Nat) (b:Bool) (x:Item) (G:Xh) (K:List (Nat × Blk)) (hG:Has G ((fb,⟨[B b],4,true⟩)::K)):AC Tryz.prog 54 [.agg (Xl x),.ptr fb 0] G (fun p G'=>p=B true∧Has G' ((fb,⟨[B (XwT b x)],4,true⟩)::K)):=by
  obtain ⟨k,c,d,t,h,f,r⟩:=x
  rw [XK]
  unfold XwT
  refine Xw Tryz.func54 rfl rfl rfl ?_
  refine Zc ?_
  refine Zb ?_
  repeat(first|refine Zd ?_|(refine ZI ?_;intro id G hG))
  refine Za ?_
  refine XD 2 hG rfl ?_
  clear hG
  intro G hG
  cases b with
  | true =>
    repeat(first|refine Zd1 ?_|(refine ZA ?_;intro G hG))
    exact Zbs
  | false =>
    repeat(first|refine Zd1 ?_|refine Z8 ?_|(refine ZA ?_;intro G hG))
    exact Zbs
theorem XwS (fb:Nat) (s:Bool) (A:List (Nat × Blk)) (G:Xh) (K:List (Nat × Blk)) (x:Item) (hW:XAM fb s A) (hG:Has G (A++K)) :
    AC Tryz.prog 54 ([.agg (Xl x)]++[.ptr fb 0]) G (fun p G'=>p=B true∧∃ A',XAM fb (XwT s x) A'∧Has G' (A'++K)):=by
  unfold XAM at hW
  subst hW
  exact (XsL fb s x G K hG).mono fun p G' h=>⟨h.1,_,rfl,h.2⟩
noncomputable def XoH (l:List Item):Bool:=Xb6 XwT Xly false l
theorem Xru:Iso Tryz.prog 53 [] (fun p=>p=.agg [.fn (.func 81) [],.fn (.func 124) [],.fn (.func 125) []]):=by
  have hG:=Xc
  refine Xb Tryz.func53 rfl rfl rfl ?_
  repeat(first|refine Zd1 ?_|refine Z5 ?_|(refine ZA ?_;intro G hG)|(refine ZD ?_;intro id G hG))
  exact XcN rfl rfl (XaR (hG.get 0 _ _ rfl)) (.refl _) (Xi.agg (TreeL.cons (Xi.fn Xp) (TreeL.cons (Xi.fn Xp) (TreeL.cons (Xi.fn Xp) TreeL.nil)))) rfl
set_option maxHeartbeats 8000000 in
theorem Xlb (l:List Item) (hc:Xz l≤300):Iso Tryz.prog 21 [Xk l] (fun p=>p=B (XoH l)):=by
  have hG:=Xc
  unfold XoH
  refine Xb Tryz.func21 rfl rfl rfl ?_
  repeat(first|refine Zd7 ?_|(refine Xr rfl rfl rfl rfl rfl rfl (by decide) Xru (fun c h=>by simp at h) ?_;rintro _ rfl)|refine ZaH ?_|(refine ZA ?_;intro G hG)|(refine ZD ?_;intro id G hG))
  rename_i fb _ _ _ _ _ _ _ _
  have hG:Has G [(id,⟨chP 54 [.ptr fb 0],123,true⟩),(fb,⟨[B false],4,true⟩)]:=hG
  have hm:=Xob (XAM fb) XwT 54 [.ptr fb 0] (XwS fb) _ l (Nat.le_refl _) hc false [(fb,⟨[B false],4,true⟩)] G [] rfl hG.tail
  refine X0 rfl rfl rfl rfl rfl rfl (by decide) hm ?_
  rintro _ G ⟨⟨o,rfl⟩,A,hW,hG⟩
  unfold XAM at hW
  subst hW
  generalize Xb6 XwT Xly false l=b at hG ⊢
  have hG:Has G [(fb,⟨[B b],4,true⟩)]:=hG
  repeat(first|refine Zd1 ?_)
  exact ZE
end Go.Proofs.YtlcphjcpoinolaaGreat
