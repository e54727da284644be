/- Part of the proof: the walk over the program and its laws: Fc. -/
import Derived.Test.YtlcphjcpoinolaaGreatP0
import Derived.Test.YtlcphjcpoinolaaGreatP51
import Derived.Test.YtlcphjcpoinolaaGreatP19
set_option linter.unusedVariables false
namespace Go.Proofs.YtlcphjcpoinolaaGreat
open Go.RowKit Go.Th
set_option maxRecDepth 20000
theorem Xfu {l:List Item} {x:Item} (hx:x ∈ l) {n:Nat} (hl:SizeOf.sizeOf l≤n+1) {k c i:Int} {t:ByteArray} {h:Head} {f:List Item} {r:List Row} (e:x=.mk k c i t h f r) :
    SizeOf.sizeOf f≤n∧∀ y ∈ r,∀ h cs,y=.mk h cs→∀ z ∈ cs,∀ i hh f,z=.mk i hh f→SizeOf.sizeOf f≤n:=by
  have hxl:=List.sizeOf_lt_of_mem hx
  subst e
  simp only [Item.mk.sizeOf_spec] at hxl
  refine ⟨by omega,?_⟩
  rintro y hy hh cs rfl z hz j hz2 g rfl
  have h1:=List.sizeOf_lt_of_mem hy
  have h2:=List.sizeOf_lt_of_mem hz
  simp only [Row.mk.sizeOf_spec] at h1
  simp only [Cell.mk.sizeOf_spec] at h2
  omega
theorem Xip {l:List Item} (hc:Xw l≤300) {x:Item} (hx:x ∈ l) {k c i:Int} {t:ByteArray} {h:Head} {f:List Item} {r:List Row} (e:x=.mk k c i t h f r) :
    Xw f≤300∧∀ y ∈ r,∀ h cs,y=.mk h cs→∀ z ∈ cs,∀ i hh f,z=.mk i hh f→Xw f≤300:=by
  have h1:=Xce hx
  subst e
  rw [XbG] at h1
  refine ⟨by omega,?_⟩
  rintro y hy hh cs rfl z hz j hz2 g rfl
  have h2:=Xcd hy
  rw [Xeg] at h2
  have h3:=Xcf hz
  rw [XdR] at h3
  omega
theorem XnD {σ:Type} (W:σ→List (Nat × Blk)→Prop) (kS:σ→Item→σ) (g:FuncId) (cap:List PV)
    (hK:∀ (s:σ) (A:List (Nat × Blk)) (G:Xi) (K:List (Nat × Blk)) (x:Item),W s A→Has G (A++K)→AC Tryz.prog g ([.agg (Xo x)]++cap) G (fun p G'=>p=B true∧∃ A',W (kS s x) A'∧Has G' (A'++K))) :
    ∀ (n:Nat) (l:List Item),SizeOf.sizeOf l≤n→Xw l≤300→XA6 W kS g cap l:=by
  intro n
  induction n with
  | zero=>intro l hl;cases l <;> simp at hl <;> omega
  | succ n ih =>
    intro l hl hc
    refine Xph W kS g cap hK l hc fun x hx k c i t h f r e=>?_
    obtain ⟨a1,a2⟩:=Xfu hx hl e
    obtain ⟨b1,b2⟩:=Xip hc hx e
    exact Zen
theorem XgE {σ:Type} (W:Nat→σ→List (Nat × Blk)→Prop) (hmono:∀ (a b:Nat) (s:σ) (A:List (Nat × Blk)),a≤b→W b s A→W a s A) (kS:σ→Item→σ) (iS:σ→Int→σ) (gi gn:FuncId) (ci cn:List PV) (uI:List (Nat × Blk)→Item→Xi→Xi) (uN:List (Nat × Blk)→Int→Xi→Xi)
    (hI:∀ (n:Nat) (s:σ) (A:List (Nat × Blk)) (G:Xi) (K:List (Nat × Blk)) (x:Item) (top:Bool),W n s A→Has G (A++K)→AC Tryz.prog gi ([.agg (Xo x),B top]++ci) G (fun p G'=>p=.tup [.agg (Xo x),B true]∧G'=uI A x G))
    (hI2:∀ (n:Nat) (s:σ) (A:List (Nat × Blk)) (G:Xi) (K:List (Nat × Blk)) (x:Item),W n s A→Has G (A++K)→∃ A',W n (kS s x) A'∧Has (uI A x G) (A'++K))
    (hN:∀ (n:Nat) (s:σ) (A:List (Nat × Blk)) (G:Xi) (K:List (Nat × Blk)) (i:Int),W (n+1) s A→Has G (A++K)→AC Tryz.prog gn ([I i]++cn) G (fun p G'=>p=I i∧G'=uN A i G))
    (hN2:∀ (n:Nat) (s:σ) (A:List (Nat × Blk)) (G:Xi) (K:List (Nat × Blk)) (i:Int),W (n+1) s A→Has G (A++K)→∃ A',W n (iS s i) A'∧Has (uN A i G) (A'++K)) :
    ∀ (n:Nat) (l:List Item),SizeOf.sizeOf l≤n→Xw l≤300→XA5 W kS iS gi gn ci cn l:=by
  intro n
  induction n with
  | zero=>intro l hl;cases l <;> simp at hl <;> omega
  | succ n ih =>
    intro l hl hc
    refine Xnu W hmono kS iS gi gn ci cn uI uN hI hI2 hN hN2 l hc fun x hx k c i t h f r e=>?_
    obtain ⟨a1,a2⟩:=Xfu hx hl e
    obtain ⟨b1,b2⟩:=Xip hc hx e
    exact Zen
def Xqr (b:Bool):Item→Bool
  | .mk k _ _ _ _ _ _=>if b=true then true else decide (k=8)
def XsA (fb:Nat) (b:Bool) (A:List (Nat × Blk)):Prop:=A=[(fb,⟨[B b],4,true⟩)]
set_option maxHeartbeats 8000000 in
theorem Xsz (fb:Nat) (b:Bool) (x:Item) (G:Xi) (K:List (Nat × Blk)) (hG:Has G ((fb,⟨[B b],4,true⟩)::K)):AC Tryz.prog 54 [.agg (Xo x),.ptr fb 0] G (fun p G'=>p=B true∧Has G' ((fb,⟨[B (Xqr b x)],4,true⟩)::K)):=by
  obtain ⟨k,c,d,t,h,f,r⟩:=x
  rw [XG]
  unfold Xqr
  refine Xv Tryz.func54 rfl rfl rfl ?_
  refine Zc ?_
  refine Zb ?_
  repeat(first|refine Zd ?_|(refine ZH ?_;intro id G hG))
  refine Za ?_
  refine Xz 2 hG rfl ?_
  clear hG
  intro G hG
  cases b with
  | true =>
    repeat(first|refine Zes ?_|(refine Zz ?_;intro G hG))
    exact Zbz
  | false =>
    repeat(first|refine Zes ?_|refine Z7 ?_|(refine Zz ?_;intro G hG))
    exact Zbz
theorem XwR (fb:Nat) (s:Bool) (A:List (Nat × Blk)) (G:Xi) (K:List (Nat × Blk)) (x:Item) (hW:XsA fb s A) (hG:Has G (A++K)) :
    AC Tryz.prog 54 ([.agg (Xo x)]++[.ptr fb 0]) G (fun p G'=>p=B true∧∃ A',XsA fb (Xqr s x) A'∧Has G' (A'++K)):=by
  unfold XsA at hW
  subst hW
  exact (Xsz fb s x G K hG).mono fun p G' h=>⟨h.1,_,rfl,h.2⟩
noncomputable def Xjv (l:List Item):Bool:=Xa1 Xqr Xhz false l
theorem Xq8:Iso Tryz.prog 53 [] (fun p=>p=.agg [.fn (.func 81) [],.fn (.func 124) [],.fn (.func 125) []]):=by
  have hG:=Xd
  refine Xb Tryz.func53 rfl rfl rfl ?_
  repeat(first|refine Zes ?_|refine Zaj ?_|(refine Zz ?_;intro G hG)|(refine ZI ?_;intro id G hG))
  exact XcK rfl rfl (XaV (hG.get 0 _ _ rfl)) (.refl _) (Xk.agg (TreeL.cons (Xk.fn Xs) (TreeL.cons (Xk.fn Xs) (TreeL.cons (Xk.fn Xs) TreeL.nil)))) rfl
set_option maxHeartbeats 8000000 in
theorem XkO (l:List Item) (hc:Xw l≤300):Iso Tryz.prog 21 [Xh l] (fun p=>p=B (Xjv l)):=by
  have hG:=Xd
  unfold Xjv
  refine Xb Tryz.func21 rfl rfl rfl ?_
  repeat(first|refine Zez ?_|(refine Xr rfl rfl rfl rfl rfl rfl (by decide) Xq8 (fun c h=>by simp at h) ?_;rintro _ rfl)|refine Zav ?_|(refine Zz ?_;intro G hG)|(refine ZI ?_;intro id G hG))
  rename_i fb _ _ _ _ _ _ _ _
  have hG:Has G [(id,⟨chP 54 [.ptr fb 0],123,true⟩),(fb,⟨[B false],4,true⟩)]:=hG
  have hm:=XnD (XsA fb) Xqr 54 [.ptr fb 0] (XwR fb) _ l (Nat.le_refl _) hc false [(fb,⟨[B false],4,true⟩)] G [] rfl hG.tail
  refine ZbH ?_
  rintro _ G ⟨⟨o,rfl⟩,A,hW,hG⟩
  unfold XsA at hW
  subst hW
  generalize Xa1 Xqr Xhz false l=b at hG ⊢
  have hG:Has G [(fb,⟨[B b],4,true⟩)]:=hG
  repeat(first|refine Zes ?_)
  exact ZB
theorem XjT (x:Item) (top:Bool):Iso Tryz.prog 73 [.agg (Xo x),B top] (fun p=>p=.tup [.agg (Xo x),B true]):=by
  have tx:=XaW x
  obtain ⟨k,c,d,t,h,f,r⟩:=x
  rw [XG] at tx ⊢
  have hG:=Xd
  refine Xb Tryz.func73 rfl rfl rfl ?_
  repeat(first|refine Zes ?_|refine ZS ?_|(refine Zz ?_;intro G hG)|(refine ZI ?_;intro id G hG)|(refine ZH ?_;intro id G hG))
  exact XiO rfl rfl (XaV (hG.get 0 _ _ rfl)) rfl (.refl _) (.refl _) (Xk.agg tx) (.v _) rfl
theorem Xnm (i:Int):Iso Tryz.prog 71 [I i] (fun p=>p=I i):=by
  have hG:=Xd
  refine Xb Tryz.func71 rfl rfl rfl ?_
  repeat(first|refine Zes ?_)
  exact ZB
theorem Xk3 (x:Item) (top:Bool):∀ c ∈ [PV.agg (Xo x),B top],Xk c:=TreeL.cons (Xk.agg (XaW x)) (TreeL.cons (Xcv _) TreeL.nil)
theorem Xmx {P:Program} {fn:Func} {E:Env} {H:Xi} {QH:PV→Xi→Prop} {a u:Tmp} {ty:TypeId} {d:TypeDesc} {size bytes:Nat} {z:List Value} {p q r:PV} [hu:HasU P ty d] [hi:HasI P ty size bytes z] (hr:fn.results=#[.cell a ty,.tmp u]) (h1:E.get a=some r) (hl:XdQ d size H r=some p) (h2:E.get u=some q) (hq:QH (.tup [p,q]) H):Xry P fn QH .ret E H :=
  ⟨.inr rfl,[p,q],by rw [hr];exact ⟨Xhv h1 hl,h2,trivial⟩,hq⟩
def XnP (x:Item):Blk:=⟨Xo x,46,true⟩
def Xl8:Blk:=⟨[I 0,I 0,I 0,S .empty,XaQ,I 0,I 0,XaQ,XaQ,XaQ,XaQ],46,true⟩
def XA2 (fb:Nat) (b:Bool) (x:Item) (G:Xi):Xi:=(((G++[some (XnP x)])++[some Xl8]).set fb (some ⟨[B b],4,true⟩)).set (G++[some (XnP x)]).length (some (XnP x))
set_option maxHeartbeats 8000000 in
theorem Xsy (fb:Nat) (b:Bool) (x:Item) (top:Bool) (G:Xi) (K:List (Nat × Blk)) (hG:Has G ((fb,⟨[B b],4,true⟩)::K)):AC Tryz.prog 70 [.agg (Xo x),B top,.ptr fb 0] G (fun p G'=>p=.tup [.agg (Xo x),B true]∧G'=XA2 fb (Xqr b x) x G):=by
  unfold XA2 XnP
  obtain ⟨k,c,d,t,h,f,r⟩:=x
  rw [XG]
  unfold Xqr
  refine Xv Tryz.func70 rfl rfl rfl ?_
  refine Zc ?_
  refine Zb ?_
  refine Xfs rfl rfl (by decide) (Xjx rfl rfl rfl) ?_
  refine Xfs rfl rfl (by decide) (Xfo rfl rfl) ?_
  have hG:Has ((G++[some (Blk.mk [I k,I c,I d,S t,Xf h.props,I h.ins,I h.move,Xm h.dels,Xl h.lyrs,Xh f,XD r] 46 true)])++[some Xl8]) (((G++[some (Blk.mk [I k,I c,I d,S t,Xf h.props,I h.ins,I h.move,Xm h.dels,Xl h.lyrs,Xh f,XD r] 46 true)]).length,Xl8)::(G.length,⟨[I k,I c,I d,S t,Xf h.props,I h.ins,I h.move,Xm h.dels,Xl h.lyrs,Xh f,XD r],46,true⟩)::(fb,⟨[B b],4,true⟩)::K):=(hG.new _).new _
  repeat(first|refine Zd ?_)
  refine Za ?_
  refine Zc ?_
  refine Zb ?_
  cases b with
  | true =>
    repeat(first|refine Zeo ?_|refine Ze ?_|refine Zu ?_|refine Za3 ?_|refine Zw ?_)
    refine Za ?_
    have hG:=hG.set (k:=2) rfl ⟨[B true],4,true⟩
    refine Zc ?_
    refine Zb ?_
    repeat(first|refine Zep ?_|refine Zd ?_|refine ZS ?_)
    refine Za ?_
    have hG:=hG.set (k:=0) rfl ⟨[I k,I c,I d,S t,Xf h.props,I h.ins,I h.move,Xm h.dels,Xl h.lyrs,Xh f,XD r],46,true⟩
    refine Zf ?_
    exact Xmx rfl rfl (XaV (hG.get 0 _ _ rfl)) rfl ⟨rfl,rfl⟩
  | false =>
    repeat(first|refine Zeo ?_|refine Z7 ?_|refine Zet ?_|refine ZS ?_|refine Za3 ?_)
    refine Za ?_
    have hG:=hG.set (k:=2) rfl ⟨[B (decide (k=8))],4,true⟩
    refine Zc ?_
    refine Zb ?_
    repeat(first|refine Zep ?_|refine Zd ?_|refine ZS ?_)
    refine Za ?_
    have hG:=hG.set (k:=0) rfl ⟨[I k,I c,I d,S t,Xf h.props,I h.ins,I h.move,Xm h.dels,Xl h.lyrs,Xh f,XD r],46,true⟩
    refine Zf ?_
    exact Xmx rfl rfl (XaV (hG.get 0 _ _ rfl)) rfl ⟨rfl,rfl⟩
theorem XsB (fb:Nat) (b b':Bool) (x:Item) (G:Xi) (K:List (Nat × Blk)) (hG:Has G ((fb,⟨[B b],4,true⟩)::K)):Has (XA2 fb b' x G) ((fb,⟨[B b'],4,true⟩)::K):=by
  have h1:=((hG.new (XnP x)).new Xl8).set (k:=2) rfl ⟨[B b'],4,true⟩
  have h2:=h1.set (k:=0) rfl (XnP x)
  exact h2.tail.tail
set_option maxHeartbeats 8000000 in
theorem Xju (l:List Item) (hc:Xw l≤300):Iso Tryz.prog 25 [Xh l] (fun p=>p=B (Xjv l)):=by
  have hG:=Xd
  unfold Xjv
  refine Xb Tryz.func25 rfl rfl rfl ?_
  repeat(first|refine Zez ?_|refine Zav ?_|refine Zaj ?_|(refine Zz ?_;intro G hG)|(refine ZI ?_;intro id G hG))
  rename_i fb _ _ _ _ _ _
  have hG:Has G [(id,⟨reP 70 [.ptr fb 0] 71 [],149,true⟩),(fb,⟨[B false],4,true⟩)]:=hG
  have hm:=XgE (fun _=>XsA fb) (fun _ _ _ _ _ h=>h) Xqr Xhz 70 71 [.ptr fb 0] [] (fun A x G=>match A with | (_,⟨[.v (.bool b)],_,_⟩)::_=>XA2 fb (Xqr b x) x G | _=>G) (fun _ _ G=>G)
    (fun _ s A G K x top hW hG=>by unfold XsA at hW;subst hW;exact Xsy fb s x top G K hG)
    (fun _ s A G K x hW hG=>by unfold XsA at hW;subst hW;exact ⟨_,rfl,XsB fb s _ x G K hG⟩)
    (fun _ s A G K i hW hG=>((Xnm i).AC (TreeL.cons (Xe _) TreeL.nil)))
    (fun _ s A G K i hW hG=>⟨A,hW,hG⟩)
    _ l (Nat.le_refl _) hc 0 true false [(fb,⟨[B false],4,true⟩)] G [] rfl hG.tail
  refine ZbH ?_
  rintro _ G ⟨⟨o,rfl⟩,A,hW,hG⟩
  unfold XsA at hW
  subst hW
  generalize Xa1 Xqr Xhz false l=b at hG ⊢
  have hG:Has G [(fb,⟨[B b],4,true⟩)]:=hG
  repeat(first|refine Zes ?_)
  exact ZB
end Go.Proofs.YtlcphjcpoinolaaGreat
