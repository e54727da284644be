/- Part of the proof: the walk over the program and its laws: Pq Ps Tx. -/
import Derived.Test.YtlcphjcpoinolaaGreatP0
import Derived.Test.YtlcphjcpoinolaaGreatP48
import Derived.Test.YtlcphjcpoinolaaGreatP33
import Derived.Test.YtlcphjcpoinolaaGreatP29
import Derived.Test.YtlcphjcpoinolaaGreatP21
import Derived.Test.YtlcphjcpoinolaaGreatP34
set_option linter.unusedVariables false
namespace Go.Proofs.YtlcphjcpoinolaaGreat
open Go.RowKit Go.Th
set_option maxRecDepth 20000
theorem Xhm:∀ {l:List Int},XaA l=0→∀ x ∈ l,x=0
  | [],_,x,hx=>by simp at hx
  | e::l,h,x,hx=>by
    rw [XaA] at h
    by_cases he:e=0
    · rw [if_pos he] at h
      rcases List.mem_cons.1 hx with e1 | hx
      · rw [e1];exact he
      · exact Xhm h x hx
    · rw [if_neg he] at h;exact absurd h he
theorem XnN {b:Bool} {e:Int} (he:e≠0) (h:Xbv b e=0):b=false:=by
  cases b with
  | false=>rfl
  | true=>exact absurd h he
theorem Xhi {s:CkS} (hs:∀ k,s.revs k=false) {e0:Int} {h:Head} (hh:Xcb s e0 h=0):Xdp h:=by
  unfold Xcb at hh
  by_cases h1:Xb0 e0 h.props=0
  rotate_left
  · rw [if_neg h1] at hh;exact absurd hh h1
  rw [if_pos h1] at hh
  by_cases h2:XiY s h.props=0
  rotate_left
  · rw [if_neg h2] at hh;exact absurd hh h2
  rw [if_pos h2] at hh
  by_cases h3:h.ins=0
  rotate_left
  · rw [if_pos ⟨h3,hs _⟩] at hh;cases hh
  rw [if_neg (fun k=>k.1 h3)] at hh
  split at hh
  · cases hh
  split at hh
  · cases hh
  unfold XeP at hh
  split at hh
  rotate_left
  · cases hh
  by_cases h4:Xsu s none h.dels=0
  rotate_left
  · rw [if_neg h4] at hh;exact absurd hh h4
  rw [if_pos h4] at hh
  split at hh
  · cases hh
  refine ⟨h3,?_,?_⟩
  · cases hc:h.dels with
    | nil=>rfl
    | cons d l=>rw [hc,XkU,if_pos (hs _)] at h4;cases h4
  · cases hc:h.lyrs with
    | nil=>rfl
    | cons y l =>
      rw [hc,List.length_cons] at hh
      unfold XmA at hh
      rw [XqR] at hh
      have e:Xtk s e0 (y::l) 0=22:=by
        unfold Xtk
        rw [List.getElem?_cons_zero]
        exact if_pos (hs _)
      rw [e] at hh
      cases hh
theorem Xor {k code i:Int} {t:ByteArray} {nf nr:Nat} (h:Xbh k code i t nf nr=0):(k≠6→nf=0)∧(k≠7→nr=0)∧(k=1→t.size≠0):=by
  unfold Xbh at h
  split at h
  · cases h
  split at h
  · cases h
  split at h
  · cases h
  rename_i hb
  unfold XgJ at hb
  split at hb
  · exact absurd rfl hb
  split at hb
  · exact absurd rfl hb
  split at hb
  · exact absurd rfl hb
  split at hb
  · exact absurd rfl hb
  rename_i h6
  rw [decide_eq_true_iff] at hb
  refine ⟨fun k6=>?_,fun k7=>?_,fun k1=>?_⟩
  · by_cases e:nf=0
    · exact e
    · exact absurd ⟨k6,by omega⟩ h6
  · by_cases e:nr=0
    · exact e
    · exact absurd ⟨k7,by omega⟩ hb
  · intro e
    unfold Xc3 at h
    split at h
    · cases h
    rw [if_pos ⟨.inl k1,(Xfn _ _).2 (ByteArray.ext (Array.eq_empty_of_size_eq_zero e))⟩] at h
    cases h
theorem XfQ {s s':CkS} (h:Xcp s s') (hs:∀ k,s.revs k=false):∀ k,s'.revs k=false:=fun k=>by rw [h.1.2.2.1];exact hs k
mutual
theorem Xoi:∀ (x:Item) (p:Plc) (s:CkS),(∀ k,s.revs k=false)→(XbO x p s).1=0→hdI Xdp x∧Xf1 x
  | .mk k code i t h f r,p,s,hs,h0=>by
    have hs2:=XfQ ((XhJ s 1).trans (Xkh k i t p (XeN s 1))) hs
    rw [XbO] at h0
    by_cases h1:Xbh k code i t f.length r.length=0
    rotate_left
    · rw [if_neg h1] at h0;exact absurd h0 h1
    rw [if_pos h1] at h0
    by_cases h2:(XdD k i t p (XeN s 1)).1=0
    rotate_left
    · rw [if_neg h2] at h0;exact absurd h0 h2
    rw [if_pos h2] at h0
    generalize (XdD k i t p (XeN s 1)).2=s2 at h0 hs2
    by_cases h3:Xcb s2 k h=0
    rotate_left
    · rw [if_neg h3] at h0;exact absurd h0 h3
    rw [if_pos h3] at h0
    have hb:=Xhi hs2 h3
    obtain ⟨g1,g2,g3⟩:=Xor h1
    rw [hdI,Xf1]
    by_cases k6:k=6
    · rw [if_pos k6] at h0
      have hf:=XdI f _ s2 hs2 h0
      have hr:r=[]:=List.length_eq_zero_iff.1 (g2 (by omega))
      subst hr
      exact ⟨⟨hb,hf.1,by rw [Xlm];trivial⟩,fun e=>absurd e (by omega),fun e=>absurd e (by omega),hf.2,by rw [XbW];trivial⟩
    · have hf:f=[]:=List.length_eq_zero_iff.1 (g1 k6)
      subst hf
      rw [if_neg k6] at h0
      by_cases k7:k=7
      · rw [if_pos k7] at h0
        have hr:=Xn1 r _ s2 hs2 h0
        exact ⟨⟨hb,by rw [XcA];trivial,hr.2.1⟩,fun _=>hr.1,fun e=>absurd e (by omega),by rw [Xad];trivial,hr.2.2⟩
      · have hr:r=[]:=List.length_eq_zero_iff.1 (g2 k7)
        subst hr
        exact ⟨⟨hb,by rw [XcA];trivial,by rw [Xlm];trivial⟩,fun e=>absurd e k7,g3,by rw [Xad];trivial,by rw [XbW];trivial⟩
theorem Xn1:∀ (l:List Row) (p:Plc) (s:CkS),(∀ k,s.revs k=false)→(Xfo l p s).1=0→l≠[]∧Xlm Xdp l∧XbW l
  | [],_,s,hs,h0=>by rw [Xfo] at h0;cases h0
  | x::l,p,s,hs,h0=>by
    rw [Xfo] at h0
    split at h0
    · cases h0
    by_cases h1:(Xkd x p s).1=0
    rotate_left
    · rw [if_neg h1] at h0;exact absurd h0 h1
    rw [if_pos h1] at h0
    have a:=Xkc x p s hs h1
    have b:=Xie l p _ (XfQ (Xfp x p s) hs) h0
    obtain ⟨hd,cs⟩:=x
    rw [Xlm,XbW]
    exact ⟨by simp,⟨a.1,a.2.2.1,b.1⟩,a.2.1,a.2.2.2,b.2⟩
theorem XdI:∀ (l:List Item) (p:Plc) (s:CkS),(∀ k,s.revs k=false)→(Xa6 l p s).1=0→XcA Xdp l∧Xad l
  | [],_,s,hs,h0=>by rw [XcA,Xad];exact ⟨trivial,trivial⟩
  | x::l,p,s,hs,h0=>by
    rw [Xa6] at h0
    by_cases h1:(XbO x p s).1=0
    rotate_left
    · rw [if_neg h1] at h0;exact absurd h0 h1
    rw [if_pos h1] at h0
    have a:=Xoi x p s hs h1
    have b:=XdI l p _ (XfQ (XfX x p s) hs) h0
    rw [XcA,Xad]
    exact ⟨⟨a.1,b.1⟩,a.2,b.2⟩
theorem Xkc:∀ (x:Row) (p:Plc) (s:CkS),(∀ k,s.revs k=false)→(Xkd x p s).1=0→(match x with | .mk h cs=>Xdp h∧cs≠[]∧Xnn Xdp cs∧XeR cs)
  | .mk h cs,p,s,hs,h0=>by
    rw [Xkd] at h0
    by_cases h1:XaA [Xcb s 9 h,Xbv (decide ((cs.length:Int)=0)) 11,Xbv (decide ((32:Int) < cs.length)) 9]=0
    rotate_left
    · rw [if_neg h1] at h0;exact absurd h0 h1
    rw [if_pos h1] at h0
    have g:=Xhm h1
    have a:=XhF cs p s hs h0
    have c:=XnN (by decide) (g (Xbv (decide ((cs.length:Int)=0)) 11) (by simp))
    rw [decide_eq_false_iff_not] at c
    show Xdp h∧cs≠[]∧Xnn Xdp cs∧XeR cs
    refine ⟨Xhi hs (g (Xcb s 9 h) (by simp)),?_,a.1,a.2⟩
    intro e
    subst e
    exact c rfl
theorem Xie:∀ (l:List Row) (p:Plc) (s:CkS),(∀ k,s.revs k=false)→(XfP l p s).1=0→Xlm Xdp l∧XbW l
  | [],_,s,hs,h0=>by rw [Xlm,XbW];exact ⟨trivial,trivial⟩
  | x::l,p,s,hs,h0=>by
    rw [XfP] at h0
    by_cases h1:(Xkd x p s).1=0
    rotate_left
    · rw [if_neg h1] at h0;exact absurd h0 h1
    rw [if_pos h1] at h0
    have a:=Xkc x p s hs h1
    have b:=Xie l p _ (XfQ (Xfp x p s) hs) h0
    obtain ⟨hd,cs⟩:=x
    rw [Xlm,XbW]
    exact ⟨⟨a.1,a.2.2.1,b.1⟩,a.2.1,a.2.2.2,b.2⟩
theorem XoF:∀ (x:Cell) (p:Plc) (s:CkS),(∀ k,s.revs k=false)→(Xga x p s).1=0→(match x with | .mk _ h f=>Xdp h∧XcA Xdp f∧Xad f)
  | .mk i h f,p,s,hs,h0=>by
    rw [Xga] at h0
    have hs2:=XfQ (Xja s i) hs
    by_cases h1:idF s i=0
    rotate_left
    · rw [if_neg h1] at h0;exact absurd h0 h1
    rw [if_pos h1] at h0
    by_cases h2:Xcb (idS s i) 10 h=0
    rotate_left
    · rw [if_neg h2] at h0;exact absurd h0 h2
    rw [if_pos h2] at h0
    exact ⟨Xhi hs2 h2,XdI f p _ hs2 h0⟩
theorem XhF:∀ (l:List Cell) (p:Plc) (s:CkS),(∀ k,s.revs k=false)→(XdZ l p s).1=0→Xnn Xdp l∧XeR l
  | [],_,s,hs,h0=>by rw [Xnn,XeR];exact ⟨trivial,trivial⟩
  | x::l,p,s,hs,h0=>by
    rw [XdZ] at h0
    by_cases h1:(Xga x p s).1=0
    rotate_left
    · rw [if_neg h1] at h0;exact absurd h0 h1
    rw [if_pos h1] at h0
    have a:=XoF x p s hs h1
    have b:=XhF l p _ (XfQ (XiB x p s) hs) h0
    obtain ⟨i,hd,f⟩:=x
    rw [Xnn,XeR]
    exact ⟨⟨a.1,a.2.1,b.1⟩,a.2.2,b.2⟩
end
theorem Xsq {e1 e2:Int} {l:List Item} {st:List Style} {ls:List Lst} (h:XwD e1 e2 (Xcq l st ls)=0):XcA Xdp l∧Xad l:=by
  unfold XwD at h
  split at h
  rotate_left
  · rename_i k;exact absurd h k
  split at h
  rotate_left
  · rename_i k;exact absurd h k
  split at h
  rotate_left
  · rename_i k;exact absurd h k
  rename_i k
  exact XdI l _ _ (fun _=>rfl) k
theorem XcD:∀ (a b:List Item),Xz (a++b)=Xz a+Xz b
  | [],b=>by rw [List.nil_append,Xz];omega
  | x::a,b=>by rw [List.cons_append,Xz,Xz,XcD a b];omega
theorem Xje {A:Head→Prop}:∀ {a b:List Item},XcA A a→XcA A b→XcA A (a++b)
  | [],b,_,h=>h
  | x::a,b,h,k=>by
    rw [XcA] at h
    rw [List.cons_append,XcA]
    exact ⟨h.1,Xje h.2 k⟩
theorem Xkz {A:Head→Prop}:∀ {a b:List Item},XcA A (a++b)→XcA A a∧XcA A b
  | [],b,h=>⟨by rw [XcA];trivial,h⟩
  | x::a,b,h=>by
    rw [List.cons_append,XcA] at h
    rw [XcA]
    have:=Xkz h.2
    exact ⟨⟨h.1,this.1⟩,this.2⟩
theorem XpU (y x:Item):XbH (Xhc y x)≤XbH y+XbH x:=by
  obtain ⟨k,c,i,t,h,f,r⟩:=y
  obtain ⟨k2,c2,i2,t2,h2,f2,r2⟩:=x
  show XbH (.mk k c i (t++t2) h f r)≤_
  rw [XbH,XbH,XbH,ByteArray.size_append]
  omega
theorem XuS {A:Head→Prop} {y x:Item} (hy:hdI A y):hdI A (Xhc y x):=by
  obtain ⟨k,c,i,t,h,f,r⟩:=y
  obtain ⟨k2,c2,i2,t2,h2,f2,r2⟩:=x
  show hdI A (.mk k c i (t++t2) h f r)
  rw [hdI] at hy ⊢
  exact hy
theorem Xpu (out:List Item) (x:Item):Xz (Xed out x)≤Xz out+XbH x:=by
  rcases List.eq_nil_or_concat out with rfl | ⟨ys,y,rfl⟩
  · rw [Xch];simp only [Xz];omega
  · rw [List.concat_eq_append,XaG]
    have:=XpU y x
    split
    · rw [XcD,XcD];simp only [Xz];omega
    · rw [XcD];simp only [Xz];omega
theorem XuB {A:Head→Prop} {out:List Item} {x:Item} (h:XcA A out) (hx:hdI A x):XcA A (Xed out x):=by
  have h1:∀ z,hdI A z→XcA A [z]:=fun z hz=>by rw [XcA,XcA];exact ⟨hz,trivial⟩
  rcases List.eq_nil_or_concat out with rfl | ⟨ys,y,rfl⟩
  · rw [Xch];exact h1 _ hx
  · rw [List.concat_eq_append] at h ⊢
    rw [XaG]
    have h2:=Xkz h
    split
    · have hy:=h2.2
      rw [XcA] at hy
      exact Xje h2.1 (h1 _ (XuS hy.1))
    · exact Xje h (h1 _ hx)
theorem XeC:∀ (l out:List Item),Xz (X8 out l)≤Xz out+Xz l
  | [],out=>by rw [X8,Xz];omega
  | x::l,out=>by
    rw [X8,Xz]
    have h1:=XeC l (Xed out x)
    have h2:=Xpu out x
    omega
theorem XgE {A:Head→Prop}:∀ {l out:List Item},XcA A l→XcA A out→XcA A (X8 out l)
  | [],out,_,h=>by rw [X8];exact h
  | x::l,out,hl,h=>by
    rw [XcA] at hl
    rw [X8]
    exact XgE hl.2 (XuB h hl.1)
mutual
theorem Xn8:∀ x,XbH (Xd1 x)≤XbH x
  | .mk k c i t h f r=>by
    rw [Xd1,XbH,XbH]
    have h1:=XeC (Xb2 f) []
    have h2:=XeB f
    have h3:=Xg2 r
    rw [Xz] at h1
    omega
theorem XeB:∀ l,Xz (Xb2 l)≤Xz l
  | []=>by rw [Xb2];omega
  | x::l=>by
    rw [Xb2,Xz,Xz]
    have h1:=Xn8 x
    have h2:=XeB l
    omega
theorem Xg2:∀ l,XbZ (Xci l)≤XbZ l
  | []=>by rw [Xci];omega
  | .mk h c::l=>by
    rw [Xci,XbZ,XbZ,XfA,XfA]
    have h1:=Xg6 c
    have h2:=Xg2 l
    omega
theorem Xg6:∀ l,Xco (Xeh l)≤Xco l
  | []=>by rw [Xeh];omega
  | .mk i h f::l=>by
    rw [Xeh,Xco,Xco,XfB,XfB]
    have h1:=XeC (Xb2 f) []
    have h2:=XeB f
    have h3:=Xg6 l
    rw [Xz] at h1
    omega
end
theorem Xki (l:List Item):Xz (XaF l)≤Xz l:=by
  unfold XaF
  have h1:=XeC (Xb2 l) []
  have h2:=XeB l
  rw [Xz] at h1
  omega
mutual
theorem XrW {A:Head→Prop}:∀ {x},hdI A x→hdI A (Xd1 x)
  | .mk k c i t h f r,hx=>by
    rw [hdI] at hx
    rw [Xd1,hdI]
    exact ⟨hx.1,XgE (XgD hx.2.1) (by rw [XcA];trivial),Xkj hx.2.2⟩
theorem XgD {A:Head→Prop}:∀ {l},XcA A l→XcA A (Xb2 l)
  | [],_=>by rw [Xb2,XcA];trivial
  | x::l,h=>by
    rw [XcA] at h
    rw [Xb2,XcA]
    exact ⟨XrW h.1,XgD h.2⟩
theorem Xkj {A:Head→Prop}:∀ {l},Xlm A l→Xlm A (Xci l)
  | [],_=>by rw [Xci,Xlm];trivial
  | .mk h c::l,k=>by
    rw [Xlm] at k
    rw [Xci,Xlm]
    exact ⟨k.1,Xkm k.2.1,Xkj k.2.2⟩
theorem Xkm {A:Head→Prop}:∀ {l},Xnn A l→Xnn A (Xeh l)
  | [],_=>by rw [Xeh,Xnn];trivial
  | .mk i h f::l,k=>by
    rw [Xnn] at k
    rw [Xeh,Xnn]
    exact ⟨k.1,XgE (XgD k.2.1) (by rw [XcA];trivial),Xkm k.2.2⟩
end
theorem XuI {A:Head→Prop} {l:List Item} (h:XcA A l):XcA A (XaF l):=by
  unfold XaF
  exact XgE (XgD h) (by rw [XcA];trivial)
theorem Xsi (l m:List Item) (st:List Style) (ls:List Lst):eqv (Xcq l st ls) (Xcq m st ls)=eqv l m:=by
  rw [Bool.eq_iff_iff,XaB,XaB]
  constructor
  · intro h
    exact congrArg Doc.flow h
  · rintro rfl;rfl
end Go.Proofs.YtlcphjcpoinolaaGreat
namespace Go.Proofs.YtlcphjcpoinolaaGreat
open Go.RowKit Go.Th
set_option maxRecDepth 20000
def Xw9:List Int→Nat→Bool
  | [],_=>false
  | x::l,i=>if x=(i:Int)+1 then Xw9 l (i+1) else true
def chkF (e:Int) (a m q:Bool):Int:=if e=0 then (if a=true then 19 else if m=true then 18 else if q=true then 0 else 15) else e
theorem XA4 (l:List Item) (st:List Style) (ls:List Lst):∀ c ∈ XdO l st ls,Xi c:=Xa (XF _) (Xa (XI _) (Xa (XaL _) Xp))
set_option maxHeartbeats 16000000 in
theorem XqI (l:List Item) (st:List Style) (ls:List Lst) (hc:Xz l≤300) (hs:SmS ⟨st,ls,[],[]⟩) (e:Int) (hd:Iso Tryz.prog 19 [.agg (X3 (Xcq l st ls))] (fun p=>p=I e))
    (hg:e=0→XcA Xdp l∧Xad l):Iso Tryz.prog 7 [.agg (XdO l st ls)] (fun p=>p=I (chkF e (XoH l) (Xw9 (Xfg l) 0) (eqv l (XaF l)))):=by
  have hG:=Xc
  have hdoc:=Xo5 l st ls
  have t0:∀ c ∈ [PV.agg (XdO l st ls)],Xi c:=TreeL.cons (Xi.agg (XA4 l st ls)) TreeL.nil
  have t1:∀ c ∈ [PV.agg (X3 (Xcq l st ls))],Xi c:=TreeL.cons (Xi.agg (Xan _)) TreeL.nil
  refine Xb Tryz.func7 rfl rfl rfl ?_
  repeat refine X4 ?_
  refine Zb ?_
  repeat(first|refine Zd ?_|(refine ZI ?_;intro id G hG))
  refine Za ?_
  refine ZaE ?_
  clear hG
  intro G hG
  repeat refine X4 ?_
  refine Zb ?_
  repeat(first|(refine Xr rfl rfl rfl rfl rfl rfl (by decide) hdoc t0 ?_;rintro _ rfl)|refine Zu ?_|(refine ZA ?_;intro G hG)|(refine ZD ?_;intro id G hG))
  refine Za ?_
  refine XD (C:=⟨X3 (Xcq l st ls),53,true⟩) 3 hG rfl ?_
  clear hG
  intro G hG
  repeat refine X4 ?_
  refine Zb ?_
  repeat(first|(refine Xr rfl rfl rfl rfl rfl rfl (by decide) hd t1 ?_;rintro _ rfl)|refine Zd5 ?_)
  refine Za ?_
  unfold chkF
  by_cases h0:e=0
  rotate_left
  · rw [if_neg h0]
    repeat(first|refine Zd1 ?_)
    exact Zav
  rw [if_pos h0]
  obtain ⟨g1,g2⟩:=hg h0
  have hi:=Xl0 l hc
  have hp:=XpA (Xcq l st ls) hc g1 ⟨rfl,rfl,rfl⟩ (Xan _)
  have ha:=Xlb l hc
  have hln:=XdK l
  have hn:=Xjv l st ls hc (Nat.le_trans (Xki l) hc) g2 (XuI g1) hs
  have hq:=XkO (Xcq l st ls) (Xcq (XaF l) st ls)
  rw [Xsi] at hq
  have tl:∀ c ∈ [Xk l],Xi c:=TreeL.cons (XF _) TreeL.nil
  have t2:∀ c ∈ [PV.agg (X3 (Xcq l st ls)),PV.agg (X3 (Xcq (XaF l) st ls))],Xi c:=TreeL.cons (Xi.agg (Xan _)) (TreeL.cons (Xi.agg (Xan _)) TreeL.nil)
  generalize eqv l (XaF l)=q at hq ⊢
  generalize XaF l=m at hn hq t2
  generalize XoH l=a at ha ⊢
  generalize Xfg l=j at hi hln ⊢
  have hjl:j.length≤300:=by omega
  clear hln hc hg g1 g2 hs hd hdoc
  have tn:=tl
  repeat(first|refine Zd1 ?_|(refine Xr rfl rfl rfl rfl rfl rfl (by decide) hi tl ?_;rintro _ rfl))
  refine Xg (S:=Nat) (fun i=>[(1,.ept (XdO l st ls) 0),(3,.ept (X3 (Xcq l st ls)) 0),(16,XlT j),(17,I j.length),(18,I i)]) (fun i G=>i≤j.length∧(a=false→Xw9 j 0=Xw9 (j.drop i) i)∧Has G []) (fun i=>j.length - i) 0
    (.cons rfl (.cons rfl (.cons rfl (.cons rfl (.cons rfl (.nil _)))))) ⟨Nat.zero_le _,fun _=>by rw [List.drop_zero],Has.nil _⟩ ?_
  clear hG
  rintro i G ⟨hi2,hf,hG⟩
  by_cases hil:i < j.length
  · obtain ⟨x,hx⟩:∃ x,j[i]?=some x:=⟨_,List.getElem?_eq_getElem hil⟩
    have hcx:=Xl8 hx
    rw [Xak hx,Xw9] at hf
    by_cases hxi:x=(i:Int)+1
    · rw [if_pos hxi] at hf
      repeat(first|refine Zd1 ?_|refine ZcS ?_)
      exact ZdZ
    · rw [if_neg hxi] at hf
      cases a with
      | true =>
        repeat(first|refine Zd1 ?_|refine ZcS ?_|(refine Zb3 ?_;rintro _ rfl)|(refine Zb4 ?_;rintro _ rfl))
        exact ⟨i+1,by omega,.cons rfl (.cons rfl (.cons rfl (.cons rfl (.cons rfl (.nil _))))),by omega,(fun h=>by cases h),hG⟩
      | false =>
        rw [hf rfl]
        repeat(first|refine Zd1 ?_|refine ZcS ?_|(refine Zb3 ?_;rintro _ rfl)|(refine Zb4 ?_;rintro _ rfl))
        exact Zav
  · have e0:j.drop i=[]:=List.drop_eq_nil_of_le (by omega)
    rw [e0,Xw9] at hf
    cases a with
    | true =>
      repeat(first|refine Zd1 ?_|(refine Zb3 ?_;rintro _ rfl)|(refine Zb4 ?_;rintro _ rfl))
      exact Zav
    | false =>
      rw [hf rfl]
      clear hf
      repeat(first|refine Zd1 ?_|(refine Zb3 ?_;rintro _ rfl)|(refine Zb4 ?_;rintro _ rfl))
      refine Zz ?_
      repeat(first|refine Y_kq rfl rfl rfl (by decide) (Iso.K rfl rfl rfl rfl hn t1) ?_|refine Y_kq rfl rfl rfl (by decide) (Iso.K rfl rfl rfl rfl hq t2) ?_|refine Zd2 ?_)
      cases q with
      | true =>
        repeat(first|refine Zd1 ?_)
        exact Zav
      | false =>
        repeat(first|refine Zd1 ?_)
        exact Zav
end Go.Proofs.YtlcphjcpoinolaaGreat
namespace Go.Proofs.YtlcphjcpoinolaaGreat
open Go.RowKit Go.Th
set_option maxRecDepth 20000
set_option maxHeartbeats 8000000 in
theorem XoQ (c:Nat) (B:Blk) (G:Xh) (K:List (Nat × Blk)) (hG:Has G ((c,B)::K)):AC Tryz.prog 36 [.ptr c 0,Xk []] G (fun p G'=>p=.tup []∧Has G' ((c,B)::K)):=by
  refine Xw Tryz.func36 rfl rfl rfl ?_
  unfold Xk XaK
  repeat(first|refine Zd7 ?_|refine Zv ?_)
  refine Zh ?_
  refine Xg (S:=Unit) (fun _=>[(0,.ptr c 0),(10,Xk []),(11,I 0),(12,I 0)]) (fun _ G=>Has G ((c,B)::K)) (fun _=>0) ()
    (.cons rfl (.cons rfl (.cons rfl (.cons rfl (.nil _))))) hG ?_
  clear hG
  rintro _ G hG
  repeat(first|refine Zd1 ?_|refine ZaC ?_|refine ZaD ?_)
  exact XcO rfl (.inl rfl) ⟨rfl,hG⟩
theorem Xrk (l:List Item) (st:List Style) (ls:List Lst):∀ c ∈ [PV.agg (XdO l st ls)],Xi c:=TreeL.cons (Xi.agg (Xa (XF _) (Xa (XI _) (Xa (XaL _) Xp)))) TreeL.nil
theorem XwZ {P:Program} {E:Env} {H:Xh} {o:Oper} {p:PV} (h:OpV P o E H p):OpW P o E H p H:=fun m w ρ hR hρ=>by
  obtain ⟨v,hrun,hr⟩:=h m w ρ hR hρ
  exact ⟨v,m,w,hrun,Le.refl m w,hR,hr⟩
set_option maxHeartbeats 8000000 in
theorem XiR (c:Nat) (G:Xh) (K:List (Nat × Blk)) (hG:Has G ((c,blB Xw7 Xaw)::K)):AC Tryz.prog 37 [.ptr c 0] G (fun p G'=>p=S ByteArray.empty):=by
  refine Xw Tryz.func37 rfl rfl rfl ?_
  unfold blB at hG
  repeat(first|refine Zd1 ?_)
  refine XjU [10] [G] G mixed (by decide +kernel) (N:=1) (by decide +kernel) rfl ?_
  repeat(first|refine Zbt ?_|refine F_v rfl rfl rfl rfl (by decide) (fun _=>Xgy rfl rfl) ?_|refine F_w 0 rfl (by decide +kernel) rfl rfl rfl rfl (by decide) (XwZ (XmJ rfl rfl rfl)) rfl ?_|refine Zd8 ?_|refine F_v rfl rfl rfl rfl (by decide) (fun _=>XdS rfl rfl rfl) ?_)
  repeat(first|refine Zf ?_)
  exact XG rfl rfl rfl
set_option maxHeartbeats 16000000 in
theorem Xrl (l:List Item) (st:List Style) (ls:List Lst) (hl:l.length≤1000000) (hf:∀ x ∈ l,Xwm x) (hw:(wrF l).length≤1000000) (hck:Iso Tryz.prog 7 [.agg (XdO l st ls)] (fun p=>p=I 0)) :
    Iso Tryz.prog 13 [.agg (XdO l st ls)] (fun p=>p=S ⟨(wrF l).toArray⟩):=by
  have hG:=Xc
  have t0:=Xrk l st ls
  refine Xb Tryz.func13 rfl rfl rfl ?_
  repeat refine X4 ?_
  refine Zb ?_
  repeat(first|refine Zd ?_|(refine ZI ?_;intro id G hG))
  refine Za ?_
  refine ZaE ?_
  clear hG
  intro G hG
  repeat refine X4 ?_
  refine Zb ?_
  repeat(first|(refine Xr rfl rfl rfl rfl rfl rfl (by decide) hck t0 ?_;rintro _ rfl)|refine Z8 ?_|refine Zu ?_)
  refine Za ?_
  repeat refine X4 ?_
  refine Xge rfl (by rfl) ?_
  refine Zm ?_
  repeat refine X4 ?_
  refine Zb ?_
  repeat(first|(refine ZD ?_;intro id G hG))
  refine Za ?_
  obtain ⟨c,hcid⟩:∃ c,c=id:=⟨_,rfl⟩
  rw [← hcid] at hG ⊢
  clear hcid
  cases l with
  | nil =>
    repeat(first|refine Zd1 ?_)
    refine X0 rfl rfl rfl rfl rfl rfl (by decide) (XoQ _ _ _ _ hG) ?_
    clear hG
    rintro _ G ⟨rfl,hG⟩
    repeat(first|refine Zd1 ?_)
    refine X0 rfl rfl rfl rfl rfl rfl (by decide) (XiR _ _ _ hG) ?_
    clear hG
    rintro _ G rfl
    repeat(first|refine Zd1 ?_)
    exact Zbi
  | cons x r =>
    have hne:wrF (x::r)≠[]:=by
      obtain ⟨k,cc,d,t,h,f,r'⟩:=x
      obtain ⟨_,_,_,_,hk⟩:=hf _ (List.mem_cons_self ..)
      unfold wrF
      rw [List.flatMap_cons]
      intro e
      have e:=(List.append_eq_nil_iff.1 e).1
      unfold wrI at e
      rcases hk with ⟨rfl,_,h1,_⟩ | ⟨rfl,_,_⟩ | ⟨rfl,_,_⟩
      · have:t.data.toList.length=t.size:=by rw [Array.length_toList];rfl
        simp only [if_true] at e
        rw [e] at this
        simp at this
        omega
      · cases e
      · cases e
    refine XfL 0 1 5 1 hG rfl rfl ?_
    clear hG
    intro o G hG
    have hB:BlH c [] [] G:=⟨Xw7,o,.inl rfl,hG.perm (List.Perm.swap _ _ _)⟩
    clear hG
    repeat(first|refine Zd1 ?_)
    refine X0 rfl rfl rfl rfl rfl rfl (by decide) (Xq8 c _ hl hf [] (by simpa using hw) _ _ hB) ?_
    clear hB
    rintro _ G ⟨rfl,hB⟩
    rw [List.nil_append] at hB
    repeat(first|refine Zd1 ?_)
    refine X0 rfl rfl rfl rfl rfl rfl (by decide) (XnV c _ hne hw _ _ hB) ?_
    clear hB
    rintro _ G rfl
    repeat(first|refine Zd1 ?_)
    exact Zbi
end Go.Proofs.YtlcphjcpoinolaaGreat
