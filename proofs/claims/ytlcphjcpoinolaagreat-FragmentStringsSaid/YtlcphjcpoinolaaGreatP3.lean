/- Part of the proof: the walk over the program and its laws: ThC Fl Ex Dp. -/
import Derived.Test.YtlcphjcpoinolaaGreatP0
import Derived.Test.YtlcphjcpoinolaaGreatP2
set_option linter.unusedVariables false
namespace Go.Th
open Go.RowKit
theorem Has.forget {H:Xh} {L:List (Nat × Blk)} {id:Nat} {B:Blk} (h:Has H ((id,B)::L)):Has (H.set id none) L :=
  ⟨fun k i C hk=>get_set_ne (h.get (k+1) i C (by simpa using hk)) (h.ne 0 (k+1) (id,B) (i,C) (by omega) rfl (by simpa using hk)),h.tail.ne⟩
theorem Xd6 {l:List PV} {n:Nat} (h:l.length=n):Xai n (l.drop 0)=some l:=by
  rw [Xaq];subst h;simp
inductive ConvL (H:Xh):List PV→List PV→Prop
  | nil:ConvL H [] []
  | cons {c d:PV} {cs ds:List PV} (h:Conv H c d) (k:ConvL H cs ds):ConvL H (c::cs) (d::ds)
theorem ConvL.all {H:Xh} {cs ds:List PV} (h:ConvL H cs ds):ds.length=cs.length∧∀ (j:Nat) (c d:PV),cs[j]?=some c→ds[j]?=some d→Conv H c d:=by
  induction h with
  | nil=>exact ⟨rfl,fun j c d h=>by simp at h⟩
  | cons h k ih =>
    refine ⟨by simp [ih.1],fun j c d hc hd=>?_⟩
    cases j with
    | zero=>simp at hc hd;subst hc;subst hd;exact h
    | succ j=>exact ih.2 j c d (by simpa using hc) (by simpa using hd)
theorem ConvL.agg {H:Xh} {cs ds:List PV} (h:ConvL H cs ds):Conv H (.agg cs) (.agg ds):=.agg h.all.1 h.all.2
theorem Conv.own {H:Xh} {L:List (Nat × Blk)} {k id len sz:Nat} {B:Blk} (hG:Has H L) (hk:L[k]?=some (id,B)) (hl:B.cells.length=len * sz):Conv H (.sl id 0 len sz) (.tr B.cells len sz) :=
  .sl (hG.get k id B hk) (Xd6 hl) rfl (fun j c d hc hd=>by rw [hc] at hd;cases hd;exact .refl _)
theorem XaR {H:Xh} {d:TypeDesc} {size id off:Nat} {B:Blk} (hB:H[id]?=some (some B)):Xd2 d size H (.ptr id off)=XfV d size B.cells off:=by
  simp only [Xd2,XdC,hB];rfl
end Go.Th
namespace Go.Th
open Go.RowKit
theorem R.freeze {m:Mp} {H:Xh} {w:World} {id off len sz:Nat} {B:Blk} {cs:List PV} {v:Value} (h:R m H w) (hB:H[id]?=some (some B)) (hc:Xai (len * sz) (B.cells.drop off)=some cs) (hv:Rep m w (.sl id off len sz) v) :
    ∃ m',Le m w m' w∧R m' (H.set id none) w∧Rep m' w (.tr cs len sz) v:=by
  have hat:At none m w 1 [(0,.sl id off len sz)] H ⟨#[v],[]⟩ w:=⟨rfl,RdK.none _ _,m,LeD.refl m w,h,fun t p ht=>by
    rw [Env.get_cons] at ht
    by_cases e:0=t
    · subst e;rw [if_pos rfl] at ht;cases ht;exact hv
    · rw [if_neg e] at ht;simp [Env.get] at ht⟩
  obtain ⟨_,_,m',h3,h4,h5⟩:=hat.freeze (t:=0) rfl hB hc
  exact ⟨m',h3.le,h4,h5 0 _ rfl⟩
end Go.Th
namespace Go.Th
open Go.RowKit
def Wk (c c':PV):Prop:=∀ m w v,Rep m w c v→Rep m w c' v
theorem Wk.refl (c:PV):Wk c c:=fun _ _ _ h=>h
theorem Wk.nil (sz:Nat):Wk (.v (.slice none 0 0)) (.tr [] 0 sz):=fun m w v h=>by rw [XA h];exact .trn
inductive WkL:List PV→List PV→Prop
  | nil:WkL [] []
  | cons {c d:PV} {cs ds:List PV} (h:Wk c d) (k:WkL cs ds):WkL (c::cs) (d::ds)
theorem WkL.app {a b c d:List PV} (h:WkL a b) (k:WkL c d):WkL (a++c) (b++d):=by
  induction h with
  | nil=>exact k
  | cons h _ ih=>exact .cons h ih
theorem WkL.all {cs ds:List PV} (h:WkL cs ds):ds.length=cs.length∧∀ (j:Nat) (d:PV),ds[j]?=some d→∃ c,cs[j]?=some c∧Wk c d:=by
  induction h with
  | nil=>exact ⟨rfl,fun j d h=>by simp at h⟩
  | cons h k ih =>
    refine ⟨by simp [ih.1],fun j d hd=>?_⟩
    cases j with
    | zero=>simp at hd;subst hd;exact ⟨_,rfl,h⟩
    | succ j=>exact ih.2 j d (by simpa using hd)
theorem Wk.agg {cs ds:List PV} (h:WkL cs ds):Wk (.agg cs) (.agg ds):=fun m w v hr=>by
  obtain ⟨hl,hc⟩:=h.all
  cases hr with
  | agg vs a b =>
    refine .agg vs (by rw [a,hl]) fun j d hd=>?_
    obtain ⟨c,hc1,hc2⟩:=hc j d hd
    exact hc2 m w _ (b j c hc1)
theorem Xgz {P:Program} {n:Nat} {Q:QA} {E:Env} {H:Xh} {L:List (Nat × Blk)} {pg:Nat} {B:Blk} {cs:List PV} {c:Code} (k:Nat) (hG:Has H L) (hk:L[k]?=some (pg,B)) (hw:WkL B.cells cs)
    (h:∀ G,Has G (L.set k (pg,{ B with cells:=cs }))→wpA P n c Q E G):wpA P n c Q E H:=by
  rintro rd m0 w0 a w ⟨h1,h2,m,h3,h4,h5⟩
  obtain ⟨hl,hc⟩:=hw.all
  have hR:=h4.alt (hG.get k pg B hk) { B with cells:=cs } rfl rfl hl (fun j d hd=>let ⟨c,c1,c2⟩:=hc j d hd;⟨c,c1,fun v hv=>c2 m w v hv⟩)
  exact h _ (hG.set hk _) rd m0 w0 a w ⟨h1,h2,m,h3,hR,h5⟩
theorem XnL {P:Program} {n:Nat} {Q:QA} {E:Env} {H:Xh} {ops:Array Oper} {rest:List Oper} (t:Nat) {id off len sz:Nat} {B:Blk} {cs:List PV} (ht:E.get t=some (.sl id off len sz)) (hB:H[id]?=some (some B)) (hc:Xai (len * sz) (B.cells.drop off)=some cs)
    (h:wpL P n ops rest Q ((t,.tr cs len sz)::E) (H.set id none)):wpL P n ops rest Q E H:=fun rd m0 w0 a w hat=>h rd m0 w0 a w (hat.freeze ht hB hc)
theorem Xb4 {p:Prop} [Decidable p] (h:¬ p):(!decide p)=true:=by simp [h]
theorem Xb5 {p:Prop} [Decidable p] (h:p):(!decide p)=false:=by simp [h]
end Go.Th
namespace Go.Th
open Go.RowKit
def DY (P:Program) (n:Nat) (l:List Oper) (Hs:Nat→Xh):Nat→List Oper→List PV→Env→(Env→Prop)→Prop
  | _,[],_,E,K=>K E
  | i,o::os,acc,E,K=>∃ p,((∀ d,o.dst=some d→d < n) ∧
      match o.guard with
      | none=>match Xs o with
        | true=>OpK P o (XY o E) (Hs (XdG l i)) p (Hs (XdG l i+1))
        | false=>∀ k,Xaz l i≤k→k≤XaO l i→OpK P o (XY o E) (Hs k) p (Hs k)
      | some (j,want)=>∃ b oj,j < i∧acc[i - 1 - j]?=some (.v (.bool b))∧l[j]?=some oj∧oj.dst.isSome=true ∧
          (b=want→∀ k,Xaz l i≤k→k≤XaO l i→OpK P o (XY o E) (Hs k) p (Hs k))∧(b≠want→p=.v undef)) ∧
    DY P n l Hs (i+1) os (p::acc) (match o.dst with | some d=>(d,p)::E | none=>E) K
theorem DY.dx {P:Program} {n:Nat} {l:List Oper} {Hs:Nat→Xh} {K:Env→Prop}:∀ (os:List Oper) (i:Nat) (acc:List PV) (E:Env),acc.length=i→DY P n l Hs i os acc E K→DX P n l Hs i os acc.reverse E K
  | [],i,acc,E,_,h=>h
  | o::os,i,acc,E,hl,⟨p,⟨h1,h2⟩,h3⟩=>by
    have h4:=DY.dx os (i+1) (p::acc) _ (by simp [hl]) h3
    rw [List.reverse_cons] at h4
    refine ⟨p,⟨h1,?_⟩,h4⟩
    cases hg:o.guard with
    | none=>rw [hg] at h2;exact h2
    | some jw =>
      rw [hg] at h2
      obtain ⟨b,oj,e0,e1,e2⟩:=h2
      refine ⟨b,oj,?_,e2⟩
      rw [List.getElem?_reverse (by omega),hl]
      exact e1
theorem XoT {P:Program} {n:Nat} {l:List Oper} {E0:Env} {Q:QA} {id:Nat} {G:Xh} (L:List Xh) (G':Xh) {N:Nat} (hm:P.follows .mixedOrders=true) (hB:Xf6 l=true) (hN:XdG l l.length=N) (hG:hsL (G::L) N=G')
    (h:DY P n l (hsL (G::L)) 0 l [] E0 (fun E=>Q .normal E G')):wpA P n (.region id l.toArray true) Q E0 G :=
  Xxo L G' hm hB hN hG (DY.dx l 0 [] E0 rfl h)
theorem Xxl {P:Program} {n:Nat} {l:List Oper} {H:Xh} {E0:Env} {Q:QA} {id:Nat} (hm:P.follows .mixedOrders=true) (hB:Xf6 l=true)
    (h:DY P n l (fun _=>H) 0 l [] E0 (fun E=>Q .normal E H)):wpA P n (.region id l.toArray true) Q E0 H :=
  Xxn hm hB (DY.dx l 0 [] E0 rfl h)
section
variable {P:Program} {n:Nat} {l:List Oper} {acc:List PV} {Hs:Nat→Xh} {i:Nat} {o:Oper} {os:List Oper} {p:PV} {E:Env} {d:Nat} {K:Env→Prop}
theorem XwU {K:Env→Xh→Prop} {Q:QA} {H:Xh} (h:K E H):DY P n l Hs i [] acc E (fun E=>Xe0 K Q .normal E H):=h
theorem Y_k (hg:o.guard=none) (hl:Xs o=false) (hd:o.dst=some d) (hn:d < n) (h:∀ G,OpK P o (XY o E) G p G) (k:DY P n l Hs (i+1) os (p::acc) ((d,p)::E) K):DY P n l Hs i (o::os) acc E K:=by
  refine ⟨p,⟨fun d' hd'=>by rw [hd] at hd';cases hd';exact hn,?_⟩,by rw [hd];exact k⟩
  rw [hg,hl]
  exact fun c _ _=>h (Hs c)
theorem Y_v (hg:o.guard=none) (hl:Xs o=false) (hd:o.dst=some d) (hn:d < n) (h:∀ G,OpV P o (XY o E) G p) (k:DY P n l Hs (i+1) os (p::acc) ((d,p)::E) K):DY P n l Hs i (o::os) acc E K :=
  Y_k hg hl hd hn (fun G=>(h G).K) k
theorem Y_r {H:Xh} (c:Nat) (h1:Xaz l i=c) (h2:XaO l i=c) (hH:Hs c=H) (hg:o.guard=none) (hl:Xs o=false) (hd:o.dst=some d) (hn:d < n) (h:OpV P o (XY o E) H p) (k:DY P n l Hs (i+1) os (p::acc) ((d,p)::E) K):DY P n l Hs i (o::os) acc E K:=by
  refine ⟨p,⟨fun d' hd'=>by rw [hd] at hd';cases hd';exact hn,?_⟩,by rw [hd];exact k⟩
  rw [hg,hl]
  intro c' hc1 hc2
  have:c'=c:=by omega
  subst this
  rw [hH]
  exact h.K
theorem Y_q {H:Xh} (hg:o.guard=none) (hl:Xs o=false) (hd:o.dst=some d) (hn:d < n) (h:OpV P o (XY o E) H p) (k:DY P n l (fun _=>H) (i+1) os (p::acc) ((d,p)::E) K):DY P n l (fun _=>H) i (o::os) acc E K:=by
  refine ⟨p,⟨fun d' hd'=>by rw [hd] at hd';cases hd';exact hn,?_⟩,by rw [hd];exact k⟩
  rw [hg,hl]
  exact fun _ _ _=>h.K
theorem Y_kq {H:Xh} (hg:o.guard=none) (hl:Xs o=false) (hd:o.dst=some d) (hn:d < n) (h:OpK P o (XY o E) H p H) (k:DY P n l (fun _=>H) (i+1) os (p::acc) ((d,p)::E) K):DY P n l (fun _=>H) i (o::os) acc E K:=by
  refine ⟨p,⟨fun d' hd'=>by rw [hd] at hd';cases hd';exact hn,?_⟩,by rw [hd];exact k⟩
  rw [hg,hl]
  exact fun _ _ _=>h
theorem Y_w {H H':Xh} (c:Nat) (hc:XdG l i=c) (h1:Hs c=H) (hg:o.guard=none) (hl:Xs o=true) (hd:o.dst=some d) (hn:d < n) (h:OpW P o (XY o E) H p H') (h2:Hs (c+1)=H') (k:DY P n l Hs (i+1) os (p::acc) ((d,p)::E) K):DY P n l Hs i (o::os) acc E K:=by
  refine ⟨p,⟨fun d' hd'=>by rw [hd] at hd';cases hd';exact hn,?_⟩,by rw [hd];exact k⟩
  rw [hg,hl,hc,h1,h2]
  exact h.K
theorem Y_s {H H':Xh} (c:Nat) (hc:XdG l i=c) (h1:Hs c=H) (hg:o.guard=none) (hl:Xs o=true) (hd:o.dst=none) (h:OpS P o (XY o E) H H') (h2:Hs (c+1)=H') (k:DY P n l Hs (i+1) os (.v undef::acc) E K):DY P n l Hs i (o::os) acc E K:=by
  refine ⟨.v undef,⟨(fun d' hd'=>by rw [hd] at hd';cases hd'),?_⟩,by rw [hd];exact k⟩
  rw [hg,hl,hc,h1,h2]
  exact h.K
theorem Y_c {H H':Xh} (c:Nat) (hc:XdG l i=c) (h1:Hs c=H) (hg:o.guard=none) (hl:Xs o=true) (hd:o.dst=some d) (hn:d < n) (h:OpK P o (XY o E) H p H') (h2:Hs (c+1)=H') (k:DY P n l Hs (i+1) os (p::acc) ((d,p)::E) K):DY P n l Hs i (o::os) acc E K:=by
  refine ⟨p,⟨fun d' hd'=>by rw [hd] at hd';cases hd';exact hn,?_⟩,by rw [hd];exact k⟩
  rw [hg,hl,hc,h1,h2]
  exact h
theorem Xty {j:Nat} {want:Bool} {oj:Oper} (h:∀ G,OpK P o (XY o E) G p G) (hg:o.guard=some (j,want)) (hji:j < i) (hv:acc[i - 1 - j]?=some (.v (.bool want))) (hj:l[j]?=some oj) (hjd:oj.dst.isSome=true) (hd:o.dst=some d) (hn:d < n)
    (k:DY P n l Hs (i+1) os (p::acc) ((d,p)::E) K):DY P n l Hs i (o::os) acc E K:=by
  refine ⟨p,⟨fun d' hd'=>by rw [hd] at hd';cases hd';exact hn,?_⟩,by rw [hd];exact k⟩
  rw [hg]
  exact ⟨want,oj,hji,hv,hj,hjd,fun _ c _ _=>h (Hs c),fun e=>absurd rfl e⟩
theorem Xxb {j:Nat} {want:Bool} {oj:Oper} (h:∀ G,OpV P o (XY o E) G p) (hg:o.guard=some (j,want)) (hji:j < i) (hv:acc[i - 1 - j]?=some (.v (.bool want))) (hj:l[j]?=some oj) (hjd:oj.dst.isSome=true) (hd:o.dst=some d) (hn:d < n)
    (k:DY P n l Hs (i+1) os (p::acc) ((d,p)::E) K):DY P n l Hs i (o::os) acc E K :=
  Xty (fun G=>(h G).K) hg hji hv hj hjd hd hn k
theorem Xfh {H:Xh} {j:Nat} {want:Bool} {oj:Oper} (h:OpV P o (XY o E) H p) (hg:o.guard=some (j,want)) (hji:j < i) (hv:acc[i - 1 - j]?=some (.v (.bool want))) (hj:l[j]?=some oj) (hjd:oj.dst.isSome=true) (hd:o.dst=some d) (hn:d < n)
    (k:DY P n l (fun _=>H) (i+1) os (p::acc) ((d,p)::E) K):DY P n l (fun _=>H) i (o::os) acc E K:=by
  refine ⟨p,⟨fun d' hd'=>by rw [hd] at hd';cases hd';exact hn,?_⟩,by rw [hd];exact k⟩
  rw [hg]
  exact ⟨want,oj,hji,hv,hj,hjd,fun _ _ _ _=>h.K,fun e=>absurd rfl e⟩
theorem Y_gn {j:Nat} {want b:Bool} {oj:Oper} (hg:o.guard=some (j,want)) (hji:j < i) (hv:acc[i - 1 - j]?=some (.v (.bool b))) (hb:b=!want) (hj:l[j]?=some oj) (hjd:oj.dst.isSome=true) (hd:o.dst=some d) (hn:d < n)
    (k:DY P n l Hs (i+1) os (.v undef::acc) ((d,.v undef)::E) K):DY P n l Hs i (o::os) acc E K:=by
  refine ⟨.v undef,⟨fun d' hd'=>by rw [hd] at hd';cases hd';exact hn,?_⟩,by rw [hd];exact k⟩
  rw [hg]
  refine ⟨b,oj,hji,hv,hj,hjd,fun e=>?_,fun _=>rfl⟩
  subst e;cases b <;> simp at hb
end
end Go.Th
namespace Go.Th
open Go.RowKit
section
variable {P:Program} {n:Nat} {Q:QA} {E:Env} {H:Xh} {ops:Array Oper} {rest:List Oper} {o:Oper}
theorem Xq2 {f:FuncId} {args args':List PV} {Q:PV→Prop} (h:Iso P f args' Q) (hc:ConvL H args args') (ht:∀ c ∈ args',Xi c) (hp:∀ p,Q p→∃ x,p=.v x):AC P f args H (fun p H'=>Q p∧H'=H):=by
  refine ⟨h.1,fun m w vals hR hv=>?_⟩
  obtain ⟨hl,hcc⟩:=hc.all
  have hlt:∀ b,(closed m H).ro b→b < w.heap.size:=fun b hb=>by
    rcases hb with hb | ⟨id,B,d,lim,hB,hm⟩
    · exact hR.kl b (hR.rk b hb)
    · exact hR.lt hB hm
  have hv':XeK { blk:=fun _=>none,ro:=(closed m H).ro,keep:=fun b=>b < w.heap.size } w args' vals:=⟨by rw [hl];exact hv.1,fun j c hj=>by
    obtain ⟨c0,h0⟩:∃ c0,args[j]?=some c0:=⟨_,List.getElem?_eq_getElem (by rw [← hl];exact (List.getElem?_eq_some_iff.1 hj).1)⟩
    have h1:=ht c (List.mem_of_getElem? hj) _ w _ ((hcc j c0 c h0 hj).rep hR ((hv.2 j c0 h0).mono hR.rk (XfD hR)))
    exact Rep.mono' (m:={ closed m H with blk:=fun _=>none }) (m':={ blk:=fun _=>none,ro:=(closed m H).ro,keep:=fun b=>b < w.heap.size }) (w':=w) (fun _ _ h=>h) (fun _ h=>h) (fun _ _ _=>rfl) h1⟩
  refine (h.2 { blk:=fun _=>none,ro:=(closed m H).ro,keep:=fun b=>b < w.heap.size } w vals hlt (fun b hb=>hb) (fun _=>rfl) hv').mono ?_
  rintro e w' ⟨v,p,m',rfl,hq,hr,hn,hle,hk1,hk2⟩
  obtain ⟨x,rfl⟩:=hp p hq
  have hx:v=x:=XA hr
  have hsame:∀ b,b < w.heap.size→w'.heap[b]?=w.heap[b]?:=fun b hb=>hle.same b hb
  obtain ⟨hR',hle'⟩:=hR.world hle.size hle.os hle.tape hle.output (fun b hb=>hsame b (hR.kl b hb)) (fun id B b d lim hB hm=>hsame b (hR.lt hB hm))
  refine ⟨v,.v x,H,m,rfl,⟨hq,rfl⟩,?_,hR',hle'⟩
  cases hr with
  | v _ hna=>exact .v _ hna
theorem XAO {c:Call} {x:Operand} {g:FuncId} {cap args args':List PV} {u:Value} (ho:o.op=.call c) (hc:c.callee=.value x) (hx:E.ev x=some (.fn (.func g) cap))
    (ha:evs E c.args.toList=some args) (h:Iso P g args' (fun q=>q=.v u)) (hcv:ConvL H (args++cap) args') (ht:∀ c ∈ args',Xi c):OpK P o E H (.v u) H :=
  AC.K ho hc hx ha (Xq2 h hcv ht (fun p hp=>⟨u,hp⟩))
theorem XtE {c:Call} {x:Operand} {g:FuncId} {cap args args':List PV} {QC:PV→Prop} {d:Nat} (hg:o.guard=none) (ho:o.op=.call c) (hc:c.callee=.value x) (hx:E.ev x=some (.fn (.func g) cap))
    (ha:evs E c.args.toList=some args) (hdd:o.dst=some d) (hd:d < n) (h:Iso P g args' QC) (hcv:ConvL H (args++cap) args') (ht:∀ c ∈ args',Xi c) (hp:∀ p,QC p→∃ x,p=.v x)
    (k:∀ p,QC p→wpL P n ops rest Q ((d,p)::E) H):wpL P n ops (o::rest) Q E H :=
  X0 hg ho hc hx ha hdd hd (Xq2 h hcv ht hp) (fun p H' ⟨hq,e⟩=>e ▸ k p hq)
theorem Xlg {f:FuncId} {args args':List PV} {Q:PV→Prop} (h:Iso P f args' Q) (hw:WkL args args'):Iso P f args Q:=by
  obtain ⟨hl,hc⟩:=hw.all
  refine ⟨h.1,fun m w vals h1 h2 h3 h4=>h.2 m w vals h1 h2 h3 ⟨by rw [hl];exact h4.1,fun j c hj=>?_⟩⟩
  obtain ⟨c0,a,b⟩:=hc j c hj
  exact b m w _ (h4.2 j c0 a)
end
section
variable {P:Program} {n:Nat} {l:List Oper} {acc:List PV} {Hs:Nat→Xh} {i:Nat} {o:Oper} {os:List Oper} {p:PV} {E:Env} {d:Nat} {K:Env→Prop}
end
end Go.Th
namespace Go.Th
open Go.RowKit
def gv (b want:Bool) (p:PV):PV:=match b == want with
  | true=>p
  | false=>.v undef
theorem Xvl (b:Bool) (p:PV):gv b b p=p:=by cases b <;> rfl
theorem Xzi {b want:Bool} (h:b≠want) (p:PV):gv b want p=.v undef:=by cases b <;> cases want <;> first | rfl | exact absurd rfl h
section
variable {P:Program} {n:Nat} {Q:QA} {E:Env} {H:Xh} {ops:Array Oper} {rest:List Oper} {o:Oper} {p:PV} {d:Nat}
theorem Xxj {H':Xh} (hg:o.guard=none) (hd:o.dst=some d) (hn:d < n) (h:OpK P o E H p H') (k:wpL P n ops rest Q ((d,p)::E) H'):wpL P n ops (o::rest) Q E H:=by
  rintro rd m0 w0 a w ⟨h1,h2,m,h3,h4,h5⟩
  refine wpListIn_plain hg fun K hK=>?_
  refine h rd m w a _ _ h4 (fun x q hx=>h5.ev hx) fun v m' w' hle hR hr=>?_
  rw [hd]
  exact hK _ _ (k rd m0 w0 (a.put (some d) v) w' ⟨by simp [Act.put,h1],h2,m',h3.trans hle,hR,(h5.mono h4.rk hle).put (by omega) hr⟩)
theorem XcH {og:Oper} {j dj:Nat} {want b:Bool} (h:b=want→OpK P { o with guard:=none } E H p H) (hg:o.guard=some (j,want)) (hj:ops[j]?=some og) (hdj:og.dst=some dj) (hb:E.get dj=some (.v (.bool b))) (hd:o.dst=some d) (hn:d < n)
    (k:wpL P n ops rest Q ((d,gv b want p)::E) H):wpL P n ops (o::rest) Q E H :=
  XtG hg hj hdj hb hd hn (fun e=>Xxj rfl hd hn (h e) (by subst e;rw [Xvl] at k;exact k)) (fun e=>by rw [Xzi e] at k;exact k)
theorem XdV {og:Oper} {j dj:Nat} {want b:Bool} (h:b=want→OpV P { o with guard:=none } E H p) (hg:o.guard=some (j,want)) (hj:ops[j]?=some og) (hdj:og.dst=some dj) (hb:E.get dj=some (.v (.bool b))) (hd:o.dst=some d) (hn:d < n)
    (k:wpL P n ops rest Q ((d,gv b want p)::E) H):wpL P n ops (o::rest) Q E H :=
  XcH (fun e=>(h e).K) hg hj hdj hb hd hn k
theorem Xw0 {c a z:Operand} {b x:Bool} (ho:o.op=.pick c a z) (hc:E.ev c=some (.v (.bool b))) (ha:b=true→E.ev a=some (.v (.bool x))) (hz:E.ev z=some (.v (.bool false))):OpV P o E H (.v (.bool (b && x))):=by
  cases b with
  | true=>exact Xbe ho hc rfl (ha rfl)
  | false=>exact Xbf ho hc rfl hz
theorem Xxg {b:Bool} (hg:o.guard=none) (hd:o.dst=some d) (hn:d < n) (h:OpV P o E H (.v (.bool b))) (k:∀ b',b'=b→wpL P n ops rest Q ((d,.v (.bool b'))::E) H):wpL P n ops (o::rest) Q E H :=
  Xj hg hd hn h (k b rfl)
end
section
variable {P:Program} {n:Nat} {l:List Oper} {acc:List PV} {Hs:Nat→Xh} {i:Nat} {o:Oper} {os:List Oper} {p:PV} {E:Env} {d:Nat} {K:Env→Prop}
end
end Go.Th
namespace Go.Th
open Go.RowKit
section
variable {P:Program} {n:Nat} {Q:QA} {E:Env} {H:Xh} {ops:Array Oper} {rest:List Oper}
theorem Xxk {o og:Oper} {j dj d:Nat} {want:Bool} (hg:o.guard=some (j,want)) (hj:ops[j]?=some og) (hdj:og.dst=some dj) (hb:E.get dj=some (.v undef)) (hd:o.dst=some d) (hn:d < n)
    (h2:wpL P n ops rest Q ((d,.v undef)::E) H):wpL P n ops (o::rest) Q E H:=by
  intro rd m0 w0 a w hat
  obtain ⟨a1,a2,m,a3,a4,a5⟩:=hat
  have hr:=a5 dj _ hb
  have he:a.tmps.getD dj undef=undef:=XA hr
  have hy:yielded ops a.tmps j=none:=by
    simp only [yielded,hj,hdj,Option.bind_some]
    rw [Array.getD_eq_getD_getElem?] at he
    cases h:a.tmps[dj]? with
    | none=>rfl
    | some v =>
      rw [h] at he
      simp at he
      subst he
      rfl
  have hw:Region.wanted o (yielded ops a.tmps)=false:=by simp [Region.wanted,hg,hy]
  unfold wpListIn
  rw [hw,if_neg (by simp),hd]
  refine ⟨fun f _=>Xcm rd f,?_⟩
  exact h2 rd m0 w0 _ w ⟨by simp [Act.put,a1],a2,m,a3,a4,a5.put (by omega) (.v _ rfl)⟩
end
end Go.Th
namespace Go.Th
open Go.RowKit
def Xe7 (fx:List Nat × List Nat) (l:List Oper) (i:Nat):Bool:=(Xa0 l i || fx.2.contains i) && !fx.1.contains i
def XoM (fx:List Nat × List Nat) (l:List Oper) (listed:Array Bool):Nat:=(List.range l.length).countP fun i=>Xe7 fx l i && listed.getD i false
def loF (fx:List Nat × List Nat) (l:List Oper) (i:Nat):Nat:=(List.range l.length).countP fun j=>Xe7 fx l j && Xa3 (bef l []) j i
def hiF (fx:List Nat × List Nat) (l:List Oper) (i:Nat):Nat:=(List.range l.length).countP fun j=>Xe7 fx l j && !Xa3 (bef l []) i j
def nF (fx:List Nat × List Nat) (l:List Oper) (i:Nat):Nat:=(List.range l.length).countP fun j=>Xe7 fx l j && decide (j < i)
def Xgl (fx:List Nat × List Nat) (l:List Oper):Bool :=
  let bs:=bef l []
  Xsp l &&
  (l.zipIdx.all fun (oi,i)=>l.zipIdx.all fun (oj,j)=>Nat.beq i j ||
    ((oi.dst.all fun d=>!(Xbg oj).contains d || (if i < j then Xa3 bs i j else Xa3 bs j i)) &&
     (oi.dst.all fun d=>oj.dst.all fun d'=>!Nat.beq d d') &&
     (!(((Xs oi || fx.2.contains i) && !fx.1.contains i) && ((Xs oj || fx.2.contains j) && !fx.1.contains j)) || (if i < j then Xa3 bs i j else Xa3 bs j i)))) &&
  (l.zipIdx.all fun (o,i)=>match o.guard with
    | none=>true
    | some (j,_)=>Xa3 bs j i && Nat.blt j i && !(Xs o || fx.2.contains i))
structure DrawOkF (fx:List Nat × List Nat) (l:List Oper):Prop where
  down:∀ (i:Nat) (o:Oper),l[i]?=some o→∀ e ∈ o.after,Region.binds .any e=true→e.on < i
  slot:∀ (i j:Nat) (oi oj:Oper) (d:Nat),i≠j→l[i]?=some oi→l[j]?=some oj→oi.dst=some d→d ∈ Xbg oj→(i < j→Xa3 (bef l []) i j=true)∧(j < i→Xa3 (bef l []) j i=true)
  dst:∀ (i j:Nat) (oi oj:Oper) (d:Nat),i≠j→l[i]?=some oi→l[j]?=some oj→oi.dst=some d→oj.dst≠some d
  loud:∀ (i j:Nat) (oi oj:Oper),i < j→l[i]?=some oi→l[j]?=some oj→((Xs oi || fx.2.contains i) && !fx.1.contains i)=true→((Xs oj || fx.2.contains j) && !fx.1.contains j)=true→Xa3 (bef l []) i j=true
  guard:∀ (i j:Nat) (o:Oper) (w:Bool),l[i]?=some o→o.guard=some (j,w)→Xa3 (bef l []) j i=true∧j < i∧(Xs o || fx.2.contains i)=false
theorem XwC {fx:List Nat × List Nat} {l:List Oper} (h:Xgl fx l=true):DrawOkF fx l:=by
  unfold Xgl at h
  simp only [Bool.and_eq_true] at h
  obtain ⟨⟨h1,h2⟩,h3⟩:=h
  have pair:∀ (i j:Nat) (oi oj:Oper),i≠j→l[i]?=some oi→l[j]?=some oj →
      ((oi.dst.all fun d=>!(Xbg oj).contains d || (if i < j then Xa3 (bef l []) i j else Xa3 (bef l []) j i))=true∧(oi.dst.all fun d=>oj.dst.all fun d'=>!Nat.beq d d')=true ∧
       (!(((Xs oi || fx.2.contains i) && !fx.1.contains i) && ((Xs oj || fx.2.contains j) && !fx.1.contains j)) || (if i < j then Xa3 (bef l []) i j else Xa3 (bef l []) j i))=true):=fun i j oi oj hne hi hj=>by
    have:=XbQ (XbQ h2 hi) hj
    rw [Bool.or_eq_true] at this
    rcases this with this | this
    · exact absurd (Nat.eq_of_beq_eq_true this) hne
    · rw [Bool.and_eq_true,Bool.and_eq_true] at this
      exact ⟨this.1.1,this.1.2,this.2⟩
  refine ⟨fun i o hi e he hb=>?_,fun i j oi oj d hne hi hj hd hm=>?_,fun i j oi oj d hne hi hj hd hd'=>?_,fun i j oi oj hlt hi hj h1 h2=>?_,fun i j o w hi hg=>?_⟩
  · have:=XbQ h1 hi
    have:=List.all_eq_true.1 this e (by simpa using he)
    simp only [hb,Bool.not_true,Bool.false_or] at this
    exact Zb8
  · have:=(pair i j oi oj hne hi hj).1
    rw [hd] at this
    simp only [Option.all_some,Bool.or_eq_true,Bool.not_eq_true'] at this
    rcases this with this | this
    · have hc:(Xbg oj).contains d=true:=by simpa using hm
      rw [hc] at this;cases this
    · exact Zb9
  · have:=(pair i j oi oj hne hi hj).2.1
    rw [hd,hd'] at this
    simp at this
  · have:=(pair i j oi oj (by omega) hi hj).2.2
    rw [h1,h2] at this
    simpa [hlt] using this
  · have:=XbQ h3 hi
    rw [hg] at this
    simp only [Bool.and_eq_true,Bool.not_eq_true'] at this
    exact Zca
theorem DrawOkF.irr {fx:List Nat × List Nat} {l:List Oper} (ho:DrawOkF fx l) (i j:Nat) (h:Xa3 (bef l []) j i=true):j < i :=
  XiC l [] (fun k o hk e he hb=>by have:=ho.down k o hk e he hb;simpa using this) (fun i j hi=>by simp at hi) i j h
theorem Xmz {fx:List Nat × List Nat} {l:List Oper} (ho:DrawOkF fx l) {listed:Array Bool} (hs:listed.size=l.length) (h:Region.ready .any l.toArray listed=[]):∀ i,i < l.length→listed.getD i false=true:=by
  intro i
  induction i using Nat.strongRecOn with
  | _ i ih =>
    intro hi
    cases hf:listed.getD i false with
    | true=>rfl
    | false =>
      exfalso
      have hmem:i ∈ Region.ready .any l.toArray listed:=by
        rw [mem_ready]
        refine ⟨?_,l[i],by simp [hi],fun e he hb=>?_⟩
        · rw [Array.getD_eq_getD_getElem?,Array.getElem?_eq_getElem (by omega)] at hf ⊢
          simpa using hf
        · have:=ho.down i l[i] (by simp [hi]) e he hb
          exact ih e.on this (by omega)
      rw [h] at hmem;cases hmem
theorem Xsw {fx:List Nat × List Nat} {l:List Oper} {listed:Array Bool} {i:Nat} (hi:i < l.length) (hs:listed.size=l.length) (hf:listed.getD i false=false) :
    XoM fx l (listed.setIfInBounds i true)=XoM fx l listed+if Xe7 fx l i then 1 else 0:=by
  unfold XoM
  have hget:∀ j,(listed.setIfInBounds i true).getD j false=(listed.getD j false || decide (j=i)):=fun j=>by
    by_cases e:i=j
    · subst e;simp [Array.getD_eq_getD_getElem?,hs,hi]
    · rw [getD_set_ne false e];simp [Ne.symm e]
  have h:∀ (r:List Nat),r.Nodup→i ∈ r→(r.countP fun j=>Xe7 fx l j && (listed.setIfInBounds i true).getD j false)=(r.countP fun j=>Xe7 fx l j && listed.getD j false)+if Xe7 fx l i then 1 else 0:=by
    intro r
    induction r with
    | nil=>intro _ h;cases h
    | cons x r ih =>
      intro hnd hmem
      rw [List.nodup_cons] at hnd
      rw [List.countP_cons,List.countP_cons]
      by_cases e:x=i
      · subst e
        have hrest:(r.countP fun j=>Xe7 fx l j && (listed.setIfInBounds x true).getD j false)=r.countP fun j=>Xe7 fx l j && listed.getD j false:=by
          apply List.countP_congr
          intro j hj
          have:j≠x:=fun e=>hnd.1 (e ▸ hj)
          rw [hget];simp [this]
        rw [hrest,hget,hf]
        cases Xe7 fx l x <;> simp
      · have hm:i ∈ r:=by
          rcases List.mem_cons.1 hmem with h | h
          · exact absurd h.symm e
          · exact h
        rw [ih hnd.2 hm,hget]
        simp [e]
        omega
  exact h _ List.nodup_range (List.mem_range.2 hi)
theorem Rep.retop {m:Mp} {w:World} {c:PV} {v:Value} (t:Nat) (hr:Rep m w c v):Rep { m with top:=t } w c v :=
  Rep.mono' (m:=m) (w:=w) (m':={ m with top:=t }) (w':=w) (fun _ _ h=>h) (fun _ h=>h) (fun _ _ _=>rfl) hr
theorem R.retop {m:Mp} {H:Xh} {w:World} (h:R m H w) {t:Nat} (ht:t≤H.length):R { m with top:=t } H w:=by
  refine ⟨h.rk,h.kl,h.dom,fun id B b d lim hi hm=>?_,h.inj,ht⟩
  obtain ⟨h0,⟨cur,h1,h2,h3,h4⟩,h5⟩:=h.blk id B b d lim hi hm
  exact ⟨h0,⟨cur,h1,h2,h3,fun j c hj=>let ⟨v,hv,hr,h1v⟩:=h4 j c hj;⟨v,hv,hr.retop t,h1v⟩⟩,h5⟩
theorem Le.retop {m m':Mp} {w w':World} (h:Le m w m' w') {t:Nat} (ht:t≤m.top):Le { m with top:=t } w { m' with top:=t } w' :=
  ⟨h.blk,h.ro,h.keep,h.same,h.size,h.os,h.tape,h.output,h.fresh,rfl,fun id hid=>h.old id (Nat.lt_of_lt_of_le hid ht)⟩
theorem R.bind {m:Mp} {H:Xh} {w:World} (h:R m H w) {gid:Nat} {B:Blk} {vs:Array Value} (hB:H[gid]?=some (some B)) (hown:B.own=true) (hn:m.blk gid=none) (hc:CR m w B.cells vs.toList) (h1:B.cells.all XV=true) :
    R { m with blk:=fun i=>if i=gid then some (w.heap.size,0,vs.size) else m.blk i } H (w.alloc (.cells vs B.elem.tid)):=by
  obtain ⟨hR1,hle1⟩:=h.alloc_any (.cells vs B.elem.tid)
  have hmono:∀ id x,m.blk id=some x→(if id=gid then some (w.heap.size,0,vs.size) else m.blk id)=some x:=fun id x hx=>by
    by_cases e:id=gid
    · subst e;rw [hn] at hx;cases hx
    · rw [if_neg e];exact hx
  have hsz:vs.size=B.cells.length:=by simpa using hc.1
  have rep:∀ c v,Rep m (w.alloc (.cells vs B.elem.tid)) c v→Rep { m with blk:=fun i=>if i=gid then some (w.heap.size,0,vs.size) else m.blk i } (w.alloc (.cells vs B.elem.tid)) c v:=fun c v hr =>
    Rep.mono' (m:=m) (w:=w.alloc (.cells vs B.elem.tid)) (m':={ m with blk:=fun i=>if i=gid then some (w.heap.size,0,vs.size) else m.blk i }) (w':=w.alloc (.cells vs B.elem.tid)) hmono (fun _ h=>h) (fun _ _ _=>rfl) hr
  refine ⟨h.rk,hR1.kl,fun id x hx=>?_,fun id C b d lim hi hm=>?_,fun i j C D bi di li bj dj lj hne hi hj ho1 ho2 hmi hmj=>?_,h.top⟩
  · by_cases e:id=gid
    · subst e;exact (List.getElem?_eq_some_iff.1 hB).1
    · exact h.dom id x (by simpa [e] using hx)
  · by_cases e:id=gid
    · subst e
      rw [hB] at hi;cases hi
      simp only [if_true,Option.some.injEq,Prod.mk.injEq] at hm
      obtain ⟨rfl,rfl,rfl⟩:=hm
      refine ⟨trivial,⟨vs,heap_alloc_new w _,rfl,by omega,fun j c hj=>?_⟩,fun _ hk=>?_,fun e=>by rw [hown] at e;cases e⟩
      · obtain ⟨v,hv,hr,h1v⟩:=XfJ hc h1 j c hj
        exact ⟨v,by simpa using hv,rep c v (hr.mono h.rk hle1),h1v⟩
      · have:=h.kl _ hk;omega
    · have hm':m.blk id=some (b,d,lim):=by simpa [e] using hm
      obtain ⟨h0,⟨cur,g1,g2,g3,g4⟩,h5,h6⟩:=hR1.blk id C b d lim hi hm'
      refine ⟨h0,⟨cur,g1,g2,g3,fun j c hj=>?_⟩,h5,h6⟩
      obtain ⟨v,hv,hr,h1v⟩:=g4 j c hj
      exact ⟨v,hv,rep c v hr,h1v⟩
  · have old:∀ (i:Nat) (C:Blk) (b d li:Nat),H[i]?=some (some C)→i≠gid→(if i=gid then some (w.heap.size,0,vs.size) else m.blk i)=some (b,d,li)→m.blk i=some (b,d,li)∧b < w.heap.size:=fun i C b d li hi e hm=>by
      rw [if_neg e] at hm
      exact ⟨hm,h.lt hi hm⟩
    by_cases ei:i=gid
    · have ej:j≠gid:=fun e=>hne (by rw [ei,e])
      obtain ⟨_,hlt⟩:=old j D bj dj lj hj ej hmj
      have hmi':(if i=gid then some (w.heap.size,0,vs.size) else m.blk i)=some (bi,di,li):=hmi
      rw [if_pos ei] at hmi'
      simp only [Option.some.injEq,Prod.mk.injEq] at hmi'
      omega
    · obtain ⟨hmi',hlt⟩:=old i C bi di li hi ei hmi
      by_cases ej:j=gid
      · have hmj':(if j=gid then some (w.heap.size,0,vs.size) else m.blk j)=some (bj,dj,lj):=hmj
        rw [if_pos ej] at hmj'
        simp only [Option.some.injEq,Prod.mk.injEq] at hmj'
        omega
      · obtain ⟨hmj',_⟩:=old j D bj dj lj hj ej hmj
        exact h.inj i j C D bi di li bj dj lj hne hi hj ho1 ho2 hmi' hmj'
def OpF (P:Program) (o:Oper) (E:Env) (gid:Nat) (B:Blk) (p:PV):Prop :=
  B.own=true∧B.cells.all XV=true∧∀ m w (ρ:Operand→Value),(∀ x q,E.ev x=some q→Rep m w q (ρ x)) →
    ∃ vs v,(execOp ρ o).run P w=.ok (.value v) (w.alloc (.cells vs B.elem.tid))∧CR m w B.cells vs.toList∧∀ m',m'.blk gid=some (w.heap.size,0,vs.size)→Rep m' (w.alloc (.cells vs B.elem.tid)) p v
theorem XhP {P:Program} {o:Oper} {E:Env} {t:TypeId} {size bytes:Nat} {z:List Value} [hi:HasI P t size bytes z] {gid:Nat} (ho:o.op=.alloc t) (hz:z.all (fun x=>x.oneCell')=true) :
    OpF P o E gid ⟨z.map PV.v,t,true⟩ (.ptr gid 0):=by
  refine ⟨rfl,by simpa [XV] using hz,fun m w ρ hρ=>?_⟩
  obtain ⟨i,zv,h3,_,_,h4,h5⟩:=hi.i
  refine ⟨zv.cells,_,?_,by rw [h5];exact XtB hz,fun m' hm=>.ptr (off:=0) hm⟩
  simp [execOp,ho,Instr.alloc,zeroValue,typeInfo,h3,h4,newVar,newRow,Elem.tid]
section
variable {P:Program} {n:Nat} {fx:List Nat × List Nat} {gid:Nat→Nat} {mt:Nat} {l:List Oper} {vals:List PV} {Hs:Nat→Xh} {E0:Env} {m0:Mp} {w0:World} {rd:Option Nat}
def DFF (P:Program) (n:Nat) (fx:List Nat × List Nat) (gid:Nat→Nat) (l:List Oper) (vals:List PV) (Hs:Nat→Xh) (E0:Env) (i:Nat) (o:Oper) (p:PV):Prop :=
  (∀ d,o.dst=some d→d < n) ∧
  match fx.1.contains i with
  | true=>o.guard=none∧o.dst.isSome=true∧∃ B,OpF P o (XY o (Xac (l.take i) (vals.take i) E0)) (gid i) B p∧∀ k,loF fx l i≤k→k≤hiF fx l i→(Hs k)[gid i]?=some (some B)
  | false=>match o.guard with
    | none=>match (Xs o || fx.2.contains i) with
      | true=>OpK P o (XY o (Xac (l.take i) (vals.take i) E0)) (Hs (nF fx l i)) p (Hs (nF fx l i+1))
      | false=>∀ k,loF fx l i≤k→k≤hiF fx l i→OpK P o (XY o (Xac (l.take i) (vals.take i) E0)) (Hs k) p (Hs k)
    | some (j,want)=>∃ b oj,vals[j]?=some (.v (.bool b))∧l[j]?=some oj∧oj.dst.isSome=true ∧
        (b=want→∀ k,loF fx l i≤k→k≤hiF fx l i→OpK P o (XY o (Xac (l.take i) (vals.take i) E0)) (Hs k) p (Hs k))∧(b≠want→p=.v undef)
structure InvF (n:Nat) (fx:List Nat × List Nat) (gid:Nat→Nat) (mt:Nat) (l:List Oper) (vals:List PV) (Hs:Nat→Xh) (E0:Env) (m0:Mp) (w0:World) (listed:Array Bool) (a:Act) (w:World):Prop where
  size:listed.size=l.length
  closed:XfH l.toArray listed
  tmps:a.tmps.size=n
  rel:∃ m,m.top=mt∧LeD m0 w0 { m with top:=m0.top } w a.defers∧R m (Hs (XoM fx l listed)) w∧(∀ (j:Nat) (o:Oper) (d:Nat) (p:PV),listed.getD j false=true→l[j]?=some o→o.dst=some d→vals[j]?=some p→Rep m w p (a.tmps.getD d undef)) ∧
    (∀ t p,E0.get t=some p→(∀ (j:Nat) (o:Oper),listed.getD j false=true→l[j]?=some o→o.dst≠some t)→Rep m w p (a.tmps.getD t undef)) ∧
    (∀ j,fx.1.contains j=true→listed.getD j false=false→m.blk (gid j)=none)
theorem Xp0 (ho:DrawOkF fx l) (hgid:∀ j,fx.1.contains j=true→m0.top≤gid j∧gid j < mt) (hinj:∀ i j,fx.1.contains i=true→fx.1.contains j=true→gid i=gid j→i=j) (hmt:m0.top≤mt)
    (hv:vals.length=l.length) (hf:∀ (i:Nat) (o:Oper) (p:PV),l[i]?=some o→vals[i]?=some p→DFF P n fx gid l vals Hs E0 i o p) {Q:Exit→Act→World→Prop} {K:Act→World→Prop}
    {listed:Array Bool} {a:Act} {w:World} (hI:InvF n fx gid mt l vals Hs E0 m0 w0 listed a w) {i:Nat} (hi:i ∈ Region.ready .any l.toArray listed)
    (hK:∀ a' w',InvF n fx gid mt l vals Hs E0 m0 w0 (listed.setIfInBounds i true) a' w'→K a' w'):wpOpIn (fen rd) 0 P l.toArray Q i K a w:=by
  obtain ⟨hiu,o,hio,hdeps⟩:=mem_ready.1 hi
  have hil:l[i]?=some o:=by simpa using hio
  have hlt:i < l.length:=(List.getElem?_eq_some_iff.1 hil).1
  obtain ⟨p,hp⟩:∃ p,vals[i]?=some p:=⟨_,List.getElem?_eq_getElem (by omega)⟩
  have hif:listed.getD i false=false:=Xbc hiu
  obtain ⟨m,htop,hle,hR,hr1,hr2,hun⟩:=hI.rel
  have hlen:=hI.size
  have hL':∀ j,(listed.setIfInBounds i true).getD j false=true↔(listed.getD j false=true∨j=i):=fun j=>by
    by_cases e:i=j
    · subst e;simp [Array.getD_eq_getD_getElem?,hlen,hlt]
    · rw [getD_set_ne false e];simp [Ne.symm e]
  have hclosed':XfH l.toArray (listed.setIfInBounds i true):=fun k ok hk hkl e he hb=>by
    rw [hL'] at hkl ⊢
    rcases hkl with hkl | rfl
    · exact .inl (hI.closed k ok hk hkl e he hb)
    · rw [hio] at hk;cases hk
      exact .inl (hdeps e he hb)
  have hbefi:∀ j,Xa3 (bef l []) j i=true→j≠i→listed.getD j false=true:=fun j hb hne=>by
    have:=Xcy hclosed' l [] (fun k=>by simp) (fun i j hi=>by simp at hi) i j hb ((hL' i).2 (.inr rfl))
    rcases (hL' j).1 this with h | h
    · exact h
    · exact absurd h hne
  have hbefo:∀ j,Xa3 (bef l []) i j=true→listed.getD j false=false:=fun j hb=>by
    cases hj:listed.getD j false with
    | false=>rfl
    | true =>
      have:=Xcy hI.closed l [] (fun k=>by simp) (fun i j hi=>by simp at hi) j i hb hj
      rw [hif] at this;cases this
  have hEi:∀ t q,(XY o (Xac (l.take i) (vals.take i) E0)).get t=some q→Rep m w q (a.tmps.getD t undef):=fun t q ht=>by
    have hts:t ∈ Xbg o:=Env.only_self _ _ t q ht
    have ht':=Env.only_get _ _ t q ht
    rcases XbX _ _ _ t q ht' with ⟨j,oj,h1,h2,h3,h4⟩ | ⟨h1,h2⟩
    · have hji:j < i:=by simp at h1;omega
      rw [List.getElem?_take,if_pos hji] at h2 h4
      have:=(ho.slot j i oj o t (by omega) h2 hil h3 hts).1 hji
      exact Zcb
    · refine hr2 t q h1 fun j oj hj hjl hd=>?_
      rcases Nat.lt_or_ge j i with hlt2 | hge
      · exact h2 j oj (by simp;omega) (by rw [List.getElem?_take,if_pos hlt2];exact hjl) hd
      · have hne:j≠i:=fun e=>by rw [e] at hj;rw [hif] at hj;cases hj
        have:=(ho.slot j i oj o t hne hjl hil hd hts).2 (by omega)
        rw [hbefo j this] at hj;cases hj
  have hev:∀ x q,(XY o (Xac (l.take i) (vals.take i) E0)).ev x=some q→Rep m w q (a.eval x):=fun x q hx=>FR.ev (a:=a) hEi hx
  have hdf:=hf i o p hil hp
  have fin0:∀ (v:Value) (m':Mp) (w':World),m'.top=mt→LeD m0 w0 { m' with top:=m0.top } w' a.defers→(∀ c x,Rep m w c x→Rep m' w' c x)→R m' (Hs (XoM fx l (listed.setIfInBounds i true))) w'→Rep m' w' p v →
      (∀ j,fx.1.contains j=true→(listed.setIfInBounds i true).getD j false=false→m'.blk (gid j)=none)→K (a.put o.dst v) w':=fun v m' w' htop' hle' hmono hR' hrep hun'=>by
    refine hK _ _ ⟨by simp [hlen],hclosed',by cases o.dst <;> simp [Act.put,hI.tmps],m',htop',hle'.put,hR',fun j oj d q hj hjl hd hq=>?_,fun t q ht hno=>?_,hun'⟩
    · rcases (hL' j).1 hj with hj | rfl
      · have hne:i≠j:=fun e=>by rw [← e,hif] at hj;cases hj
        have hrj:=hmono _ _ (hr1 j oj d q hj hjl hd hq)
        cases hdo:o.dst with
        | none=>simpa [Act.put,hdo] using hrj
        | some d' =>
          have hdd:d'≠d:=fun e=>ho.dst i j o oj d hne hil hjl (by rw [hdo,e]) hd
          simpa [Act.put,hdo,Array.getD_eq_getD_getElem?,Array.getElem?_setIfInBounds_ne hdd] using hrj
      · rw [hil] at hjl;cases hjl
        rw [hp] at hq;cases hq
        have hdn:d < a.tmps.size:=by rw [hI.tmps];exact hdf.1 d hd
        simpa [Act.put,hd,Array.getD_eq_getD_getElem?,hdn] using hrep
    · have hdt:o.dst≠some t:=hno i o ((hL' i).2 (.inr rfl)) hil
      have hrt:=hmono _ _ (hr2 t q ht (fun j oj hj hjl=>hno j oj ((hL' j).2 (.inl hj)) hjl))
      cases hdo:o.dst with
      | none=>simpa [Act.put,hdo] using hrt
      | some d' =>
        have hdd:d'≠t:=fun e=>hdt (by rw [hdo,e])
        simpa [Act.put,hdo,Array.getD_eq_getD_getElem?,Array.getElem?_setIfInBounds_ne hdd] using hrt
  have hunl:∀ j,(listed.setIfInBounds i true).getD j false=false→listed.getD j false=false∧j≠i:=fun j hj=>by
    refine ⟨?_,fun e=>?_⟩
    · cases h:listed.getD j false with
      | false=>rfl
      | true=>rw [(hL' j).2 (.inl h)] at hj;cases hj
    · rw [(hL' j).2 (.inr e)] at hj;cases hj
  have fin:∀ (v:Value) (m':Mp) (w':World),Le m w m' w'→R m' (Hs (XoM fx l (listed.setIfInBounds i true))) w'→Rep m' w' p v→K (a.put o.dst v) w':=fun v m' w' hle' hR' hrep=>by
    have h3:=hle'.retop (t:=m0.top) (by rw [htop];exact hmt)
    refine fin0 v m' w' (hle'.top.trans htop) (hle.trans h3) (fun c x hr=>hr.mono hR.rk hle') hR' hrep fun j hj hjl=>?_
    rw [hle'.old _ (by rw [htop];exact (hgid j hj).2)]
    exact hun j hj (hunl j hjl).1
  have hla:Xe7 fx l i=((Xs o || fx.2.contains i) && !fx.1.contains i):=by simp [Xe7,Xa0,hil]
  have hcnt:=Xsw (fx:=fx) (l:=l) hlt hlen hif
  rw [hla] at hcnt
  have hlo:loF fx l i≤XoM fx l listed:=by
    refine Xfz _ _ _ fun j hj hb=>?_
    simp only [Bool.and_eq_true] at hb ⊢
    exact Zcc
  have hhi:XoM fx l listed≤hiF fx l i:=by
    refine Xfz _ _ _ fun j hj hb=>?_
    simp only [Bool.and_eq_true,Bool.not_eq_true'] at hb ⊢
    refine ⟨hb.1,?_⟩
    cases hbb:Xa3 (bef l []) i j with
    | false=>rfl
    | true=>rw [hbefo j hbb] at hb;cases hb.2
  have h2:=hdf.2
  unfold wpOpIn
  simp only [hio]
  cases hfi:fx.1.contains i with
  | true =>
    rw [hfi] at h2 hcnt
    simp only at h2
    obtain ⟨hg,hds,B,⟨hown,h1,hF⟩,hB⟩:=h2
    have hw:Region.wanted o (yielded l.toArray a.tmps)=true:=by simp [Region.wanted,hg]
    rw [if_pos hw]
    obtain ⟨vs,v,hrun,hc,hrep⟩:=hF m w a.eval hev
    have hn:=hun i hfi hif
    have hbind:=R.bind hR (hB _ hlo hhi) hown hn hc h1
    have hmono:∀ id x,m.blk id=some x→(if id=gid i then some (w.heap.size,0,vs.size) else m.blk id)=some x:=fun id x hx=>by
      by_cases e:id=gid i
      · subst e;rw [hn] at hx;cases hx
      · rw [if_neg e];exact hx
    refine XeA hrun ?_
    refine fin0 v { m with blk:=fun k=>if k=gid i then some (w.heap.size,0,vs.size) else m.blk k } _ htop ?_ (fun c x hr=>?_) ?_ (hrep _ (by simp)) fun j hj hjl=>?_
    · refine hle.trans ⟨hmono,fun _ h=>h,fun _ h=>h,fun b hb=>Below.heap_alloc w _ b (hR.kl b hb),by simp,rfl,rfl,rfl,fun _ h=>.inl h,rfl,fun id hid=>?_⟩
      have hid':id < m0.top:=hid
      have:=(hgid i hfi).1
      show (if id=gid i then some (w.heap.size,0,vs.size) else m.blk id)=m.blk id
      rw [if_neg (by omega)]
    · exact Rep.mono' (m:=m) (w:=w) (m':={ m with blk:=fun k=>if k=gid i then some (w.heap.size,0,vs.size) else m.blk k }) (w':=w.alloc (.cells vs B.elem.tid)) hmono (fun _ h=>h)
        (fun b x hb=>World.cell?_of_block (Below.heap_alloc w _ b (hR.kl b (hR.rk b hb)))) hr
    · rw [hcnt];simpa using hbind
    · obtain ⟨h5,h6⟩:=hunl j hjl
      show (if gid j=gid i then some (w.heap.size,0,vs.size) else m.blk (gid j))=none
      rw [if_neg (fun e=>h6 (hinj j i hj hfi e))]
      exact hun j hj h5
  | false =>
    rw [hfi] at h2 hcnt
    simp only [Bool.not_false,Bool.and_true] at h2 hcnt
    cases hg:o.guard with
    | none =>
      have hw:Region.wanted o (yielded l.toArray a.tmps)=true:=by simp [Region.wanted,hg]
      rw [if_pos hw]
      rw [hg] at h2
      simp only at h2
      cases hlo':(Xs o || fx.2.contains i) with
      | true =>
        rw [hlo'] at h2 hcnt
        simp only at h2
        have hn:XoM fx l listed=nF fx l i:=by
          apply List.countP_congr
          intro j hj
          have hjl:j < l.length:=List.mem_range.1 hj
          have hjo:l[j]?=some l[j]:=List.getElem?_eq_getElem hjl
          cases hla2:Xe7 fx l j with
          | false=>simp
          | true =>
            have hlj:((Xs l[j] || fx.2.contains j) && !fx.1.contains j)=true:=by simpa [Xe7,Xa0,hjo] using hla2
            have hli:((Xs o || fx.2.contains i) && !fx.1.contains i)=true:=by rw [hlo',hfi];rfl
            simp only [Bool.true_and,decide_eq_true_eq]
            constructor
            · intro hlj2
              rcases Nat.lt_trichotomy j i with h | h | h
              · exact h
              · rw [h,hif] at hlj2;cases hlj2
              · have:=hbefo j (ho.loud i j o l[j] h hil hjo hli hlj)
                rw [this] at hlj2;cases hlj2
            · intro h
              exact hbefi j (ho.loud j i l[j] o h hjo hil hlj hli) (by omega)
        refine h2 rd m w a _ _ (by rw [← hn];exact hR) hev fun v m' w' h3 h4 h5=>fin v m' w' h3 ?_ h5
        rw [hcnt,hn];simpa using h4
      | false =>
        rw [hlo'] at h2 hcnt
        simp only at h2
        refine h2 _ hlo hhi rd m w a _ _ hR hev fun v m' w' h3 h4 h5=>fin v m' w' h3 ?_ h5
        rw [hcnt];simpa using h4
    | some jw =>
      obtain ⟨j,want⟩:=jw
      rw [hg] at h2
      simp only at h2
      obtain ⟨b,oj,hvj,hjl,hjd,h3,h4⟩:=h2
      obtain ⟨g1,g2,g3⟩:=ho.guard i j o want hil hg
      have hlj:=hbefi j g1 (by omega)
      obtain ⟨dj,hdj⟩:=Option.isSome_iff_exists.1 hjd
      have hrj:=hr1 j oj dj _ hlj hjl hdj hvj
      have he:a.tmps.getD dj undef=.bool b:=XA hrj
      have hdn:dj < a.tmps.size:=by
        rcases Nat.lt_or_ge dj a.tmps.size with h | h
        · exact h
        · rw [Array.getD_eq_getD_getElem?,Array.getElem?_eq_none h] at he;simp [undef] at he
      have hy:yielded l.toArray a.tmps j=some b:=by
        have:a.tmps[dj]?=some (.bool b):=by
          rw [Array.getD_eq_getD_getElem?,Array.getElem?_eq_getElem hdn] at he
          rw [Array.getElem?_eq_getElem hdn]
          simpa using he
        simp [yielded,hjl,hdj,this]
      rw [g3] at hcnt
      by_cases e:b=want
      · have hw:Region.wanted o (yielded l.toArray a.tmps)=true:=by simp [Region.wanted,hg,hy,e]
        rw [if_pos hw]
        refine h3 e _ hlo hhi rd m w a _ _ hR hev fun v m' w' h5 h6 h7=>fin v m' w' h5 ?_ h7
        rw [hcnt];simpa using h6
      · have hw:Region.wanted o (yielded l.toArray a.tmps)=false:=by simp [Region.wanted,hg,hy,e]
        rw [hw,if_neg (by simp)]
        have hpu:=h4 e
        subst hpu
        refine ⟨fun f _=>Xcm rd f,fin undef m w (Le.refl m w) ?_ (.v _ rfl)⟩
        rw [hcnt];simpa using hR
theorem Xnk (ho:DrawOkF fx l) (hgid:∀ j,fx.1.contains j=true→m0.top≤gid j∧gid j < mt) (hinj:∀ i j,fx.1.contains i=true→fx.1.contains j=true→gid i=gid j→i=j) (hmt:m0.top≤mt)
    (hv:vals.length=l.length) (hf:∀ (i:Nat) (o:Oper) (p:PV),l[i]?=some o→vals[i]?=some p→DFF P n fx gid l vals Hs E0 i o p) {Q:Exit→Act→World→Prop}
    (hQ:∀ listed a w,InvF n fx gid mt l vals Hs E0 m0 w0 listed a w→(∀ i,i < l.length→listed.getD i false=true)→Q .normal a w) :
    ∀ (fuel:Nat) (listed:Array Bool) (a:Act) (w:World),InvF n fx gid mt l vals Hs E0 m0 w0 listed a w→((List.range l.length).countP fun i=>!listed.getD i false)≤fuel→wpAnyIn (fen rd) 0 P .any l.toArray Q fuel listed a w
  | 0,listed,a,w,hI,hc=>by
    have hall:∀ i,i < l.length→listed.getD i false=true:=fun i hi=>by
      have:=List.countP_eq_zero.1 (Nat.le_zero.1 hc) i (List.mem_range.2 hi)
      simpa using this
    refine ⟨?_,hQ listed a w hI hall⟩
    cases hr:Region.ready .any l.toArray listed with
    | nil=>rfl
    | cons i r =>
      have hm:i ∈ Region.ready .any l.toArray listed:=by rw [hr];simp
      obtain ⟨h1,o,h2,_⟩:=mem_ready.1 hm
      have hlt:i < l.length:=by simpa using (Array.getElem?_eq_some_iff.1 h2).1
      have:=hall i hlt
      rw [Xbc h1] at this;cases this
  | fuel+1,listed,a,w,hI,hc=>by
    refine ⟨fun hr=>hQ listed a w hI (Xmz ho hI.size hr),fun i hi=>?_⟩
    refine Xp0 ho hgid hinj hmt hv hf hI hi fun a' w' hI'=>Xnk ho hgid hinj hmt hv hf hQ fuel _ a' w' hI' ?_
    obtain ⟨h1,o,h2,_⟩:=mem_ready.1 hi
    have hlt:i < l.length:=by simpa using (Array.getElem?_eq_some_iff.1 h2).1
    have hif:=Xbc h1
    have hlen:=hI.size
    have hget:∀ j,(listed.setIfInBounds i true).getD j false=(listed.getD j false || decide (j=i)):=fun j=>by
      by_cases e:i=j
      · subst e;simp [Array.getD_eq_getD_getElem?,hlen,hlt]
      · rw [getD_set_ne false e];simp [Ne.symm e]
    have key:∀ (r:List Nat),r.Nodup→i ∈ r→(r.countP fun j=>!(listed.setIfInBounds i true).getD j false)+1=r.countP fun j=>!listed.getD j false:=by
      intro r
      induction r with
      | nil=>intro _ h;cases h
      | cons x r ih =>
        intro hnd hmem
        rw [List.nodup_cons] at hnd
        rw [List.countP_cons,List.countP_cons]
        by_cases e:x=i
        · subst e
          have hrest:(r.countP fun j=>!(listed.setIfInBounds x true).getD j false)=r.countP fun j=>!listed.getD j false:=by
            apply List.countP_congr
            intro j hj
            have:j≠x:=fun e=>hnd.1 (e ▸ hj)
            rw [hget];simp [this]
          rw [hrest,hget,hif]
          simp
        · have hm:i ∈ r:=by
            rcases List.mem_cons.1 hmem with h | h
            · exact absurd h.symm e
            · exact h
          have:=ih hnd.2 hm
          have e2:(!(listed.getD x false || decide (x=i)))=!listed.getD x false:=by simp [e]
          rw [hget,e2]
          omega
    have:=key _ List.nodup_range (List.mem_range.2 hlt)
    omega
theorem Xtp {m:Mp} {w:World}:∀ (bs:List Blk) (H:Xh),R m H w→R m (H++bs.map some) w
  | [],H,h=>by simpa using h
  | b::bs,H,h=>by
    have:=Xtp bs (H++[some b]) (h.ghost b)
    simpa using this
theorem XoV {Q:QA} {id:Nat} {H0:Xh} (bs:List Blk) (hm:P.follows .mixedOrders=true) (hB:Xgl fx l=true) (hgid:∀ j,fx.1.contains j=true→H0.length≤gid j∧gid j < H0.length+bs.length)
    (hinj:∀ i j,fx.1.contains i=true→fx.1.contains j=true→gid i=gid j→i=j) (h0:Hs 0=H0++bs.map some) (hv:vals.length=l.length)
    (hf:∀ (i:Nat) (o:Oper) (p:PV),l[i]?=some o→vals[i]?=some p→DFF P n fx gid l vals Hs E0 i o p)
    (k:Q .normal (Xac l vals E0) (Hs (nF fx l l.length))):wpA P n (.region id l.toArray true) Q E0 H0:=by
  rintro rd m1 w1 a w ⟨h1,h2,m,h3,h4,h5⟩
  have ho:=XwC hB
  have h4':=h4.drew
  refine wpIn_region_any hm ?_
  have hcnt0:XoM fx l (Array.replicate l.length false)=0:=by
    unfold XoM
    rw [List.countP_eq_zero]
    intro i _
    rw [XbT]
    simp
  have htop:m1.top=m.top:=h3.top.symm
  have hle0:m.top≤H0.length:=h4.top
  have hlenH:(Hs 0).length=H0.length+bs.length:=by rw [h0];simp
  have hR0:R { m with top:=H0.length+bs.length } (Hs 0) w.drew:=by
    have:=Xtp bs H0 h4'.1
    rw [← h0] at this
    exact this.retop (by omega)
  refine Xnk (Hs:=Hs) (E0:=E0) (m0:=m1) (w0:=w1) (mt:=H0.length+bs.length) ho (fun j hj=>⟨by have:=(hgid j hj).1;omega,(hgid j hj).2⟩) hinj (by omega) hv hf (fun listed a' w' hI hall=>?_) _ _ a w.drew
    ⟨by simp,fun i o hi hl=>?_,h1,{ m with top:=H0.length+bs.length },rfl,?_,by simpa [hcnt0] using hR0,fun j o d p hl=>?_,fun t p ht _=>((h5 t p ht).mono h4.rk h4'.2).retop _,fun j hj _=>?_⟩ ?_
  · obtain ⟨m',g0,g1,g2,g3,g4,_⟩:=hI.rel
    have hlast:XoM fx l listed=nF fx l l.length:=by
      apply List.countP_congr
      intro j hj
      have hjl:=List.mem_range.1 hj
      simp [hall j hjl,hjl]
    refine ⟨_,_,k,hI.tmps,h2,{ m' with top:=m1.top },g1,?_,fun t p ht=>?_⟩
    · rw [← hlast]
      refine g2.retop ?_
      have:=g2.top
      omega
    · refine Rep.retop _ ?_
      rcases XbX l vals E0 t p ht with ⟨j,oj,e1,e2,e3,e4⟩ | ⟨e1,e2⟩
      · exact g3 j oj t p (hall j (by omega)) e2 e3 e4
      · exact g4 t p e1 fun j oj _ hjl=>e2 j oj (by have:=(List.getElem?_eq_some_iff.1 hjl).1;omega) hjl
  · rw [XbT] at hl;cases hl
  · have h6:=h3.trans h4'.2
    have e:({ m with top:=m1.top }:Mp)=m:=by rw [htop]
    show LeD m1 w1 { m with top:=m1.top } w.drew a.defers
    rw [e];exact h6
  · rw [XbT] at hl;cases hl
  · have hge:=(hgid j hj).1
    cases hmb:m.blk (gid j) with
    | none=>rfl
    | some x=>have:=h4.dom _ x hmb;omega
  · simp only [List.size_toArray]
    refine Nat.le_trans List.countP_le_length ?_
    simp
end
def DAF (P:Program) (n:Nat) (fx:List Nat × List Nat) (gid:Nat→Nat) (l:List Oper) (vals:List PV) (Hs:Nat→Xh):Nat→List Oper→List PV→Env→Prop
  | i,o::os,p::ps,E =>
    ((∀ d,o.dst=some d→d < n) ∧
      match fx.1.contains i with
      | true=>o.guard=none∧o.dst.isSome=true∧∃ B,OpF P o (XY o E) (gid i) B p∧∀ k,loF fx l i≤k→k≤hiF fx l i→(Hs k)[gid i]?=some (some B)
      | false=>match o.guard with
        | none=>match (Xs o || fx.2.contains i) with
          | true=>OpK P o (XY o E) (Hs (nF fx l i)) p (Hs (nF fx l i+1))
          | false=>∀ k,loF fx l i≤k→k≤hiF fx l i→OpK P o (XY o E) (Hs k) p (Hs k)
        | some (j,want)=>∃ b oj,vals[j]?=some (.v (.bool b))∧l[j]?=some oj∧oj.dst.isSome=true ∧
          (b=want→∀ k,loF fx l i≤k→k≤hiF fx l i→OpK P o (XY o E) (Hs k) p (Hs k))∧(b≠want→p=.v undef)) ∧
    DAF P n fx gid l vals Hs (i+1) os ps (match o.dst with | some d=>(d,p)::E | none=>E)
  | _,[],[],_=>True
  | _,_,_,_=>False
theorem DAF.facts {P:Program} {n:Nat} {fx:List Nat × List Nat} {gid:Nat→Nat} {l:List Oper} {vals:List PV} {Hs:Nat→Xh} {E0:Env} (hl:vals.length=l.length):∀ (i:Nat) (os:List Oper) (ps:List PV),l.drop i=os→vals.drop i=ps →
    DAF P n fx gid l vals Hs i os ps (Xac (l.take i) (vals.take i) E0)→∀ (j:Nat) (o:Oper) (p:PV),i≤j→l[j]?=some o→vals[j]?=some p→DFF P n fx gid l vals Hs E0 j o p
  | i,[],ps,h1,_,_,j,o,p,hij,hj,_=>by
    have h2:=congrArg List.length h1
    simp at h2
    have:=(List.getElem?_eq_some_iff.1 hj).1
    omega
  | i,o'::os,[],h1,h2,h,j,o,p,hij,hj,hp=>by simp [DAF] at h
  | i,o'::os,p'::ps,h1,h2,h,j,o,p,hij,hj,hp=>by
    obtain ⟨ha,hb⟩:=h
    have e1:l[i]?=some o':=by have:=congrArg (·[0]?) h1;simpa using this
    have e2:vals[i]?=some p':=by have:=congrArg (·[0]?) h2;simpa using this
    by_cases e:i=j
    · subst e
      rw [e1] at hj;cases hj
      rw [e2] at hp;cases hp
      exact ha
    · have hi:i < l.length:=(List.getElem?_eq_some_iff.1 e1).1
      have t1:l.take (i+1)=l.take i++[o']:=by
        rw [List.take_add_one,e1];rfl
      have t2:vals.take (i+1)=vals.take i++[p']:=by
        rw [List.take_add_one,e2];rfl
      refine DAF.facts hl (i+1) os ps ?_ ?_ ?_ j o p (by omega) hj hp
      · have:=congrArg List.tail h1;simpa using this
      · have:=congrArg List.tail h2;simpa using this
      · rw [t1,t2,Xcd _ _ _ _ _ (by simp;omega)]
        exact hb
def DYF (P:Program) (n:Nat) (fx:List Nat × List Nat) (gid:Nat→Nat) (l:List Oper) (Hs:Nat→Xh):Nat→List Oper→List PV→Env→(Env→Prop)→Prop
  | _,[],_,E,K=>K E
  | i,o::os,acc,E,K=>∃ p,((∀ d,o.dst=some d→d < n) ∧
      match fx.1.contains i with
      | true=>o.guard=none∧o.dst.isSome=true∧∃ B,OpF P o (XY o E) (gid i) B p∧∀ k,loF fx l i≤k→k≤hiF fx l i→(Hs k)[gid i]?=some (some B)
      | false=>match o.guard with
        | none=>match (Xs o || fx.2.contains i) with
          | true=>OpK P o (XY o E) (Hs (nF fx l i)) p (Hs (nF fx l i+1))
          | false=>∀ k,loF fx l i≤k→k≤hiF fx l i→OpK P o (XY o E) (Hs k) p (Hs k)
        | some (j,want)=>∃ b oj,j < i∧acc[i - 1 - j]?=some (.v (.bool b))∧l[j]?=some oj∧oj.dst.isSome=true ∧
            (b=want→∀ k,loF fx l i≤k→k≤hiF fx l i→OpK P o (XY o E) (Hs k) p (Hs k))∧(b≠want→p=.v undef)) ∧
    DYF P n fx gid l Hs (i+1) os (p::acc) (match o.dst with | some d=>(d,p)::E | none=>E) K
theorem DYF.all {P:Program} {n:Nat} {fx:List Nat × List Nat} {gid:Nat→Nat} {l:List Oper} {Hs:Nat→Xh} {K:Env→Prop}:∀ (os:List Oper) (i:Nat) (acc:List PV) (E:Env),acc.length=i→DYF P n fx gid l Hs i os acc E K →
    ∃ ps,ps.length=os.length∧DAF P n fx gid l (acc.reverse++ps) Hs i os ps E∧K (Xac os ps E)
  | [],i,acc,E,_,h=>⟨[],rfl,trivial,h⟩
  | o::os,i,acc,E,hl,⟨p,⟨h1,h2⟩,h3⟩=>by
    obtain ⟨ps,hps,hd,hk⟩:=DYF.all os (i+1) (p::acc) _ (by simp [hl]) h3
    refine ⟨p::ps,by simp [hps],⟨⟨h1,?_⟩,?_⟩,hk⟩
    · cases hf:fx.1.contains i with
      | true=>rw [hf] at h2;exact h2
      | false =>
        rw [hf] at h2
        simp only at h2 ⊢
        cases hg:o.guard with
        | none=>rw [hg] at h2;exact h2
        | some jw =>
          rw [hg] at h2
          obtain ⟨b,oj,e0,e1,e2⟩:=h2
          refine ⟨b,oj,?_,e2⟩
          rw [List.getElem?_append_left (by simp;omega),List.getElem?_reverse (by omega),hl]
          exact e1
    · rw [List.reverse_cons,List.append_assoc] at hd
      exact hd
theorem XmV {P:Program} {n:Nat} {fx:List Nat × List Nat} {gid:Nat→Nat} {l:List Oper} {E0:Env} {Q:QA} {id:Nat} {H0:Xh} (bs:List Blk) (L:List Xh) (G':Xh) {N:Nat} (hm:P.follows .mixedOrders=true) (hB:Xgl fx l=true)
    (hgid:∀ j,fx.1.contains j=true→H0.length≤gid j∧gid j < H0.length+bs.length) (hinj:∀ i j,fx.1.contains i=true→fx.1.contains j=true→gid i=gid j→i=j)
    (hN:nF fx l l.length=N) (hG:hsL ((H0++bs.map some)::L) N=G') (h:DYF P n fx gid l (hsL ((H0++bs.map some)::L)) 0 l [] E0 (fun E=>Q .normal E G')):wpA P n (.region id l.toArray true) Q E0 H0:=by
  subst hN
  subst hG
  obtain ⟨ps,hl,hd,hk⟩:=DYF.all l 0 [] E0 rfl h
  exact XoV (Hs:=hsL ((H0++bs.map some)::L)) bs hm hB hgid hinj rfl hl (fun i o p hi hp=>DAF.facts hl 0 l ps rfl rfl (by simpa [Xac] using hd) i o p (Nat.zero_le _) hi hp) hk
theorem XA2 {P:Program} {n:Nat} {l:List Oper} {E0:Env} {Q:QA} {id:Nat} {H0:Xh} {L0:List (Nat × Blk)} (i1:Nat) (B1:Blk) {N:Nat} (hG0:Has H0 L0) (hm:P.follows .mixedOrders=true) (hB:Xgl ([i1],[]) l=true) (hN:nF ([i1],[]) l l.length=N)
    (h:∀ (g1:Nat) (G:Xh),Has G ((g1,B1)::L0)→∃ (L:List Xh) (G':Xh),hsL (G::L) N=G'∧DYF P n ([i1],[]) (fun _=>g1) l (hsL (G::L)) 0 l [] E0 (fun E=>Q .normal E G')):wpA P n (.region id l.toArray true) Q E0 H0:=by
  obtain ⟨L,G',h1,h2⟩:=h H0.length (H0++[some B1]) (hG0.new B1)
  exact XmV (fx:=([i1],[])) (gid:=fun _=>H0.length) [B1] L G' hm hB (fun j hj=>by simp) (fun i j hi hj _=>by simp at hi hj;omega) hN h1 h2
theorem Xrd {P:Program} {n:Nat} {l:List Oper} {E0:Env} {Q:QA} {id:Nat} {H0:Xh} {L0:List (Nat × Blk)} (i1:Nat) (lx:List Nat) (B1:Blk) {N:Nat} (hG0:Has H0 L0) (hm:P.follows .mixedOrders=true) (hB:Xgl ([i1],lx) l=true) (hN:nF ([i1],lx) l l.length=N)
    (h:∀ (g1:Nat) (G:Xh),Has G ((g1,B1)::L0)→∃ (L:List Xh) (G':Xh),hsL (G::L) N=G'∧DYF P n ([i1],lx) (fun _=>g1) l (hsL (G::L)) 0 l [] E0 (fun E=>Q .normal E G')):wpA P n (.region id l.toArray true) Q E0 H0:=by
  obtain ⟨L,G',h1,h2⟩:=h H0.length (H0++[some B1]) (hG0.new B1)
  exact XmV (fx:=([i1],lx)) (gid:=fun _=>H0.length) [B1] L G' hm hB (fun j hj=>by simp) (fun i j hi hj _=>by simp at hi hj;omega) hN h1 h2
theorem XjU {P:Program} {n:Nat} {l:List Oper} {E0:Env} {Q:QA} {id:Nat} {G:Xh} (lx:List Nat) (L:List Xh) (G':Xh) {N:Nat} (hm:P.follows .mixedOrders=true) (hB:Xgl ([],lx) l=true) (hN:nF ([],lx) l l.length=N) (hG:hsL (G::L) N=G')
    (h:DYF P n ([],lx) (fun _=>0) l (hsL (G::L)) 0 l [] E0 (fun E=>Q .normal E G')):wpA P n (.region id l.toArray true) Q E0 G:=by
  have e:G++([]:List Blk).map some=G:=by simp
  refine XmV (fx:=([],lx)) (gid:=fun _=>0) [] L G' hm hB (fun j hj=>by simp at hj) (fun i j hi hj _=>by simp at hi) hN ?_ ?_
  · rw [e];exact hG
  · rw [e];exact h
theorem XtH {P:Program} {n:Nat} {l:List Oper} {E0:Env} {Q:QA} {id:Nat} {H0:Xh} {L0:List (Nat × Blk)} (i1 i2:Nat) (B1 B2:Blk) {N:Nat} (hG0:Has H0 L0) (hm:P.follows .mixedOrders=true) (hne:Nat.beq i1 i2=false) (hB:Xgl ([i1,i2],[]) l=true) (hN:nF ([i1,i2],[]) l l.length=N)
    (h:∀ (g1 g2:Nat) (G:Xh),Has G ((g2,B2)::(g1,B1)::L0)→∃ (L:List Xh) (G':Xh),hsL (G::L) N=G'∧DYF P n ([i1,i2],[]) (fun i=>match Nat.beq i i1 with | true=>g1 | false=>g2) l (hsL (G::L)) 0 l [] E0 (fun E=>Q .normal E G')):wpA P n (.region id l.toArray true) Q E0 H0:=by
  obtain ⟨L,G',h1,h2⟩:=h H0.length (H0++[some B1]).length (H0++[some B1]++[some B2]) ((hG0.new B1).new B2)
  have hne:i1≠i2:=fun e=>by rw [e] at hne;simp at hne
  have eH:H0++[some B1]++[some B2]=H0++[B1,B2].map some:=by simp
  rw [eH] at h1 h2
  refine XmV (fx:=([i1,i2],[])) (gid:=fun i=>match Nat.beq i i1 with | true=>H0.length | false=>(H0++[some B1]).length) [B1,B2] L G' hm hB (fun j hj=>?_) (fun i j hi hj e=>?_) hN h1 h2
  · simp only [List.length_append,List.length_cons,List.length_nil]
    cases Nat.beq j i1 <;> simp
  · simp only [List.contains_eq_mem,List.mem_cons,List.not_mem_nil,or_false,decide_eq_true_eq] at hi hj
    rcases hi with rfl | rfl <;> rcases hj with rfl | rfl
    · rfl
    · have:Nat.beq j i=false:=by cases hb:Nat.beq j i with | false=>rfl | true=>exact absurd (Nat.eq_of_beq_eq_true hb).symm hne
      simp [this] at e
    · have:Nat.beq i j=false:=by cases hb:Nat.beq i j with | false=>rfl | true=>exact absurd (Nat.eq_of_beq_eq_true hb).symm hne
      simp [this] at e
    · rfl
section
variable {P:Program} {n:Nat} {fx:List Nat × List Nat} {gid:Nat→Nat} {l:List Oper} {acc:List PV} {Hs:Nat→Xh} {i:Nat} {o:Oper} {os:List Oper} {p:PV} {E:Env} {d:Nat} {K:Env→Prop}
theorem XAQ {K:Env→Xh→Prop} {Q:QA} {H:Xh} (h:K E H):DYF P n fx gid l Hs i [] acc E (fun E=>Xe0 K Q .normal E H):=h
theorem F_k (hf:fx.1.contains i=false) (hg:o.guard=none) (hl:(Xs o || fx.2.contains i)=false) (hd:o.dst=some d) (hn:d < n) (h:∀ G,OpK P o (XY o E) G p G) (k:DYF P n fx gid l Hs (i+1) os (p::acc) ((d,p)::E) K):DYF P n fx gid l Hs i (o::os) acc E K:=by
  refine ⟨p,⟨fun d' hd'=>by rw [hd] at hd';cases hd';exact hn,?_⟩,by rw [hd];exact k⟩
  rw [hf,hg,hl]
  exact fun c _ _=>h (Hs c)
theorem F_v (hf:fx.1.contains i=false) (hg:o.guard=none) (hl:(Xs o || fx.2.contains i)=false) (hd:o.dst=some d) (hn:d < n) (h:∀ G,OpV P o (XY o E) G p) (k:DYF P n fx gid l Hs (i+1) os (p::acc) ((d,p)::E) K):DYF P n fx gid l Hs i (o::os) acc E K :=
  F_k hf hg hl hd hn (fun G=>(h G).K) k
theorem F_r (lo hi:Nat) (hf:fx.1.contains i=false) (h1:loF fx l i=lo) (h2:hiF fx l i=hi) (hg:o.guard=none) (hl:(Xs o || fx.2.contains i)=false) (hd:o.dst=some d) (hn:d < n) (h:∀ k,lo≤k→k≤hi→OpV P o (XY o E) (Hs k) p)
    (k:DYF P n fx gid l Hs (i+1) os (p::acc) ((d,p)::E) K):DYF P n fx gid l Hs i (o::os) acc E K:=by
  refine ⟨p,⟨fun d' hd'=>by rw [hd] at hd';cases hd';exact hn,?_⟩,by rw [hd];exact k⟩
  rw [hf,hg,hl]
  intro c hc1 hc2
  exact (h c (by omega) (by omega)).K
theorem F_w {H H':Xh} (c:Nat) (hf:fx.1.contains i=false) (hc:nF fx l i=c) (h1:Hs c=H) (hg:o.guard=none) (hl:(Xs o || fx.2.contains i)=true) (hd:o.dst=some d) (hn:d < n) (h:OpW P o (XY o E) H p H') (h2:Hs (c+1)=H')
    (k:DYF P n fx gid l Hs (i+1) os (p::acc) ((d,p)::E) K):DYF P n fx gid l Hs i (o::os) acc E K:=by
  refine ⟨p,⟨fun d' hd'=>by rw [hd] at hd';cases hd';exact hn,?_⟩,by rw [hd];exact k⟩
  rw [hf,hg,hl,hc,h1,h2]
  exact h.K
theorem F_s {H H':Xh} (c:Nat) (hf:fx.1.contains i=false) (hc:nF fx l i=c) (h1:Hs c=H) (hg:o.guard=none) (hl:(Xs o || fx.2.contains i)=true) (hd:o.dst=none) (h:OpS P o (XY o E) H H') (h2:Hs (c+1)=H')
    (k:DYF P n fx gid l Hs (i+1) os (.v undef::acc) E K):DYF P n fx gid l Hs i (o::os) acc E K:=by
  refine ⟨.v undef,⟨fun d' hd'=>(by rw [hd] at hd';cases hd'),?_⟩,by rw [hd];exact k⟩
  rw [hf,hg,hl,hc,h1,h2]
  exact h.K
theorem F_c {H H':Xh} (c:Nat) (hf:fx.1.contains i=false) (hc:nF fx l i=c) (h1:Hs c=H) (hg:o.guard=none) (hl:(Xs o || fx.2.contains i)=true) (hd:o.dst=some d) (hn:d < n) (h:OpK P o (XY o E) H p H') (h2:Hs (c+1)=H')
    (k:DYF P n fx gid l Hs (i+1) os (p::acc) ((d,p)::E) K):DYF P n fx gid l Hs i (o::os) acc E K:=by
  refine ⟨p,⟨fun d' hd'=>by rw [hd] at hd';cases hd';exact hn,?_⟩,by rw [hd];exact k⟩
  rw [hf,hg,hl,hc,h1,h2]
  exact h
theorem F_f {g:Nat} {B:Blk} (lo hi:Nat) (hf:fx.1.contains i=true) (hgi:gid i=g) (h1:loF fx l i=lo) (h2:hiF fx l i=hi) (hg:o.guard=none) (hd:o.dst=some d) (hn:d < n) (h:OpF P o (XY o E) g B p) (hB:∀ k,lo≤k→k≤hi→(Hs k)[g]?=some (some B))
    (k:DYF P n fx gid l Hs (i+1) os (p::acc) ((d,p)::E) K):DYF P n fx gid l Hs i (o::os) acc E K:=by
  refine ⟨p,⟨fun d' hd'=>by rw [hd] at hd';cases hd';exact hn,?_⟩,by rw [hd];exact k⟩
  rw [hf,hgi]
  exact ⟨hg,by rw [hd];rfl,B,h,fun c hc1 hc2=>hB c (by omega) (by omega)⟩
end
end Go.Th
namespace Go.Th
open Go.RowKit
structure KeyOk {K:Type} [DecidableEq K] (kd:TypeDesc) (ky:K→Value):Prop where
  same:∀ a b,Instr.sameNow kd (ky a) (ky b)=some (decide (a=b))
  chk:∀ (P:Program) (kt:TypeId) (b:Bool) (w:World) (a:K),P.underlying kt=some kd→(Instr.checkKey b 10000 kt (ky a)).run P w=.ok () w
  bits:∀ a,Instr.sameBits 10000 (ky a) (ky a)=true
  na:∀ a,Xe3 (ky a)=true
theorem Xk6 (a b:ByteArray):(a == b)=decide (a=b):=by
  obtain ⟨x⟩:=a;obtain ⟨y⟩:=b
  have:((⟨x⟩:ByteArray) == ⟨y⟩)=(x == y):=rfl
  rw [this]
  by_cases h:x=y
  · subst h;simp
  · simp [h]
theorem XAK {P:Program} {kt:TypeId} {kk:IntKind} (hk:P.underlying kt=some (.int kk)) (b:Bool) (w:World) (n:Nat) (a:Int):(Instr.checkKey b (n+1) kt (.int kk a)).run P w=.ok () w:=by
  simp [Instr.checkKey,run_underlying hk]
theorem XAJ {P:Program} {kt:TypeId} (hk:P.underlying kt=some .string) (b:Bool) (w:World) (n:Nat) (a:ByteArray):(Instr.checkKey b (n+1) kt (.string a)).run P w=.ok () w:=by
  simp [Instr.checkKey,run_underlying hk]
theorem XcQ (kk:IntKind):KeyOk (.int kk) (fun k:Int=>Value.int kk k) :=
  ⟨fun a b=>by simp only [Instr.sameNow,if_true];congr 1,fun P kt b w a hk=>XAK hk b w 9999 a,fun a=>by simp [Instr.sameBits],fun _=>rfl⟩
theorem keyStr:KeyOk .string (fun k:ByteArray=>Value.string k) :=
  ⟨fun a b=>by simp only [Instr.sameNow,Xk6],fun P kt b w a hk=>XAJ hk b w 9999 a,fun a=>by simp [Instr.sameBits,Xk6],fun _=>rfl⟩
def Xkf (w:World) (r:Nat) (o:Obj):World:={ w with heap:=w.heap.setIfInBounds r o }
theorem XgZ {w:World} {r:Nat} {o:Obj} (h:r < w.heap.size):(Xkf w r o).heap[r]?=some o:=by simp [Xkf,h]
theorem XfT {w:World} {r k:Nat} {o:Obj} (h:k≠r):(Xkf w r o).heap[k]?=w.heap[k]?:=by
  simp only [Xkf];exact Array.getElem?_setIfInBounds_ne (fun e=>h e.symm)
theorem XgY {w:World} {r:Nat} {o:Obj}:(Xkf w r o).heap.size=w.heap.size:=by simp [Xkf]
abbrev XbC (K:Type):=List (K × PV × Nat)
section
variable {K:Type} [DecidableEq K] {kd:TypeDesc} {ky:K→Value}
def Xiu (ky:K→Value) (e:K × PV × Nat):List PV:=[.v (ky e.1),e.2.1,.v (.int .i64 (e.2.2:Nat))]
def Xgi (ky:K→Value) (es:XbC K) (clock:Nat):List PV:=.v (.int .i64 (clock:Nat))::es.flatMap (Xiu ky)
def XM (ky:K→Value) (es:XbC K) (clock:Nat):Blk:=⟨[.fn (.func 0) (Xgi ky es clock)],0,true⟩
def Xcc (k:K):XbC K→Nat→Option (Nat × PV)
  | [],_=>none
  | e::es,i=>if k=e.1 then some (i,e.2.1) else Xcc k es (i+1)
def Xdr (es:XbC K) (k:K):Option PV:=(Xcc k es 0).map (·.2)
def Xib:XbC K→Nat→K→PV→XbC K
  | [],_,_,_=>[]
  | e::es,0,k,p=>(k,p,e.2.2)::es
  | e::es,i+1,k,p=>e::Xib es i k p
def Xgt (es:XbC K) (clock:Nat) (k:K) (p:PV):XbC K:=match Xcc k es 0 with
  | none=>es++[(k,p,clock)]
  | some (i,_)=>Xib es i k p
def Xgu (es:XbC K) (clock:Nat) (k:K):Nat:=match Xcc k es 0 with
  | none=>clock+1
  | some _=>clock
theorem Xnr (k:K):∀ (es:XbC K) (i j:Nat) (p:PV),Xcc k es i=some (j,p)→i≤j
  | [],_,_,_,h=>by simp [Xcc] at h
  | e::es,i,j,p,h=>by
    simp only [Xcc] at h
    split at h
    · simp at h;omega
    · have:=Xnr k es (i+1) j p h;omega
theorem XdN (k:K):∀ (es:XbC K) (i:Nat),Xcc k es i=(Xcc k es 0).map fun x=>(x.1+i,x.2)
  | [],_=>rfl
  | e::es,i=>by
    simp only [Xcc]
    split
    · simp
    · rw [XdN k es (i+1),XdN k es (0+1)]
      cases Xcc k es 0 <;> simp;omega
theorem Xjf (k:K):Xdr ([]:XbC K) k=none:=rfl
theorem Xel (e:K × PV × Nat) (es:XbC K) (k:K):Xdr (e::es) k=if k=e.1 then some e.2.1 else Xdr es k:=by
  simp only [Xdr,Xcc]
  split
  · rfl
  · rw [XdN];cases Xcc k es 0 <;> rfl
theorem Xsg (es fs:XbC K) (k:K):Xdr (es++fs) k=(Xdr es k).or (Xdr fs k):=by
  induction es with
  | nil=>simp [Xjf]
  | cons e es ih=>rw [List.cons_append,Xel,Xel,ih];split <;> simp
theorem Xhk (k k':K) (p q:PV):∀ (es:XbC K) (i:Nat),Xcc k es 0=some (i,q)→Xdr (Xib es i k p) k'=if k'=k then some p else Xdr es k'
  | [],_,h=>by simp [Xcc] at h
  | e::es,i,h=>by
    simp only [Xcc] at h
    split at h
    · rename_i e1
      simp only [Option.some.injEq,Prod.mk.injEq] at h
      obtain ⟨rfl,rfl⟩:=h
      simp only [Xib,Xel,← e1]
      split <;> rfl
    · rename_i e1
      rw [XdN] at h
      cases hf:Xcc k es 0 with
      | none=>rw [hf] at h;simp at h
      | some x =>
        obtain ⟨j,q'⟩:=x
        rw [hf] at h
        simp only [Option.map_some,Option.some.injEq,Prod.mk.injEq] at h
        obtain ⟨rfl,rfl⟩:=h
        simp only [Xib,Xel,Xhk k k' p q' es j hf]
        by_cases e2:k'=e.1
        · have:k'≠k:=fun e3=>e1 (by rw [← e3,e2])
          rw [if_pos e2,if_neg this,if_pos e2]
        · simp [e2]
theorem Xft (es:XbC K) (clock:Nat) (k k':K) (p:PV):Xdr (Xgt es clock k p) k'=if k'=k then some p else Xdr es k':=by
  unfold Xgt
  cases hf:Xcc k es 0 with
  | none =>
    have:Xdr es k=none:=by rw [Xdr,hf];rfl
    simp only [Xsg,Xel,Xjf]
    by_cases e:k'=k
    · subst e;simp [this]
    · simp [e]
  | some x=>exact Xhk k k' p x.2 es x.1 hf
inductive EntsRep (ky:K→Value) (m:Mp) (w:World):XbC K→List MapEntry→Prop
  | nil:EntsRep ky m w [] []
  | cons {e:K × PV × Nat} {es:XbC K} {x:MapEntry} {l:List MapEntry} (h1:x.key=ky e.1) (h2:Rep m w e.2.1 x.val) (h3:x.born=e.2.2) (t:EntsRep ky m w es l):EntsRep ky m w (e::es) (x::l)
def Xhy (e:MapEntry):List Value:=[e.key,e.val,.int .i64 (e.born:Nat)]
theorem XiG {m:Mp} {w:World}:CR m w [] []:=⟨rfl,fun j c h=>by simp at h⟩
theorem Xbu {m:Mp} {w:World} {p:PV} {v:Value} {ps:List PV} {vs:List Value} (h:Rep m w p v) (k:CR m w ps vs):CR m w (p::ps) (v::vs) :=
  ⟨by simp [k.1],fun j c hj=>by
    cases j with
    | zero=>simp at hj;subst hj;exact ⟨v,rfl,h⟩
    | succ j=>simpa using k.2 j c (by simpa using hj)⟩
theorem Xa8 {m:Mp} {w:World} {p:PV} {ps:List PV} {l:List Value} (h:CR m w (p::ps) l):∃ v vs,l=v::vs∧Rep m w p v∧CR m w ps vs:=by
  cases l with
  | nil=>have:=h.1;simp at this
  | cons v vs =>
    obtain ⟨u,hu,hr⟩:=h.2 0 p rfl
    simp at hu;subst hu
    exact ⟨v,vs,rfl,hr,by have:=h.1;simpa using this,fun j c hj=>by simpa using h.2 (j+1) c (by simpa using hj)⟩
theorem Xnx {m:Mp} {w:World} (hk:KeyOk kd ky) {es:XbC K} {l:List MapEntry} (h:EntsRep ky m w es l):CR m w (es.flatMap (Xiu ky)) (l.flatMap Xhy):=by
  induction h with
  | nil=>exact XiG
  | @cons e es x l h1 h2 h3 t ih =>
    simp only [List.flatMap_cons,Xiu,Xhy,List.cons_append,List.nil_append,h1,h3]
    exact Xbu (.v _ (hk.na _)) (Xbu h2 (Xbu (.v _ rfl) ih))
omit [DecidableEq K] in
theorem Xny {m:Mp} {w:World}:∀ (es:XbC K) (l:List MapEntry),CR m w (es.flatMap (Xiu ky)) (l.flatMap Xhy)→EntsRep ky m w es l
  | [],[],_=>.nil
  | [],x::l,h=>by have:=h.1;simp [Xhy] at this
  | e::es,[],h=>by have:=h.1;simp [Xiu] at this
  | e::es,x::l,h=>by
    simp only [List.flatMap_cons,Xiu,Xhy,List.cons_append,List.nil_append] at h
    obtain ⟨_,_,e1,r1,h⟩:=Xa8 h
    obtain ⟨_,_,e2,r2,h⟩:=Xa8 h
    obtain ⟨_,_,e3,r3,h⟩:=Xa8 h
    simp only [List.cons.injEq] at e1
    obtain ⟨rfl,rfl⟩:=e1
    simp only [List.cons.injEq] at e2
    obtain ⟨rfl,rfl⟩:=e2
    simp only [List.cons.injEq] at e3
    obtain ⟨rfl,rfl⟩:=e3
    have a1:x.key=ky e.1:=XA r1
    have a3:(x.born:Int)=(e.2.2:Nat):=by
      have:Value.int .i64 (x.born:Nat)=Value.int .i64 (e.2.2:Nat):=by
        exact XA r3
      injection this
    exact .cons a1 r2 (by omega) (Xny es l h)
theorem Xec {m:Mp} {w:World} {f:Fn} {ps:List PV} {vs:Array Value}:Rep m w (.fn f ps) (.func f #[] vs)↔CR m w ps vs.toList:=by
  constructor
  · intro h
    cases h with
    | fn _ hl h =>
      refine ⟨by simpa using hl,fun j c hj=>?_⟩
      have hlt:j < vs.size:=by rw [hl];exact (List.getElem?_eq_some_iff.1 hj).1
      exact ⟨vs[j],by simp [hlt],by simpa [Array.getD_eq_getD_getElem?,hlt] using h j c hj⟩
  · intro h
    refine .fn vs (by simpa using h.1) fun j c hj=>?_
    obtain ⟨u,hu,hr⟩:=h.2 j c hj
    have hlt:j < vs.size:=by
      have h1:vs.size=ps.length:=by simpa using h.1
      rw [h1];exact (List.getElem?_eq_some_iff.1 hj).1
    simp [hlt] at hu
    subst hu
    simpa [Array.getD_eq_getD_getElem?,hlt] using hr
omit [DecidableEq K] in
theorem Xei {m:Mp} {H:Xh} {w:World} (hR:R m H w) {id:Nat} {es:XbC K} {clock:Nat} (hB:H[id]?=some (some (XM ky es clock))) {v:Value} (hr:Rep m w (.mp id) v) :
    ∃ b lim l,v=.map (some b)∧m.blk id=some (b,1,lim)∧lim=1∧w.heap[b]?=some (.map l clock)∧EntsRep ky m w es l.toList:=by
  cases hr with
  | @mp _ b lim hm =>
    obtain ⟨_,⟨cur,⟨l,c',h1,rfl⟩,h2,h3,h4⟩,_⟩:=hR.blk id _ b 1 lim hB hm
    obtain ⟨u,hu,hru,_⟩:=h4 0 (.fn (.func 0) (Xgi ky es clock)) rfl
    simp at hu
    subst hu
    have hc:=Xec.1 hru
    simp only [Xgi,Xej] at hc
    obtain ⟨_,_,e1,r1,hc2⟩:=Xa8 hc
    clear hc
    simp only [List.cons.injEq] at e1
    obtain ⟨rfl,rfl⟩:=e1
    have a3:(c':Int)=(clock:Nat):=by
      have:Value.int .i64 (c':Nat)=Value.int .i64 (clock:Nat):=XA r1
      injection this
    have a3:c'=clock:=by omega
    subst a3
    exact ⟨b,lim,l,rfl,hm,by simpa using h2.symm,h1,Xny es l.toList hc2⟩
theorem Xdn (hk:KeyOk kd ky) {m:Mp} {w:World} (k:K) {es:XbC K} {l:List MapEntry} (h:EntsRep ky m w es l):∀ (i:Nat),
    (Xcc k es i=none∧Instr.findNow kd (ky k) l i=some none)∨∃ j p v,Xcc k es i=some (j,p)∧Instr.findNow kd (ky k) l i=some (some (j,v))∧Rep m w p v:=by
  induction h with
  | nil=>exact fun i=>.inl ⟨rfl,rfl⟩
  | @cons e es x l h1 h2 h3 t ih =>
    intro i
    simp only [Xcc,Instr.findNow,h1,hk.same]
    by_cases e1:k=e.1
    · simp only [e1,if_true,decide_true]
      exact .inr ⟨i,e.2.1,x.val,rfl,rfl,h2⟩
    · simp only [e1,if_false,decide_false]
      exact ih (i+1)
theorem Xa2 (hk:KeyOk kd ky) {P:Program} {kt:TypeId} (hu:P.underlying kt=some kd) {m:Mp} {w:World} (k:K) {es:XbC K} {l:List MapEntry} (h:EntsRep ky m w es l) :
    (Xcc k es 0=none∧(Instr.findKey kt (ky k) l).run P w=.ok none w)∨∃ j p v,Xcc k es 0=some (j,p)∧(Instr.findKey kt (ky k) l).run P w=.ok (some (j,v)) w∧Rep m w p v:=by
  rcases Xdn hk k h 0 with ⟨h1,h2⟩ | ⟨j,p,v,h1,h2,h3⟩
  · exact .inl ⟨h1,by simp [Instr.findKey,run_underlying hu,h2]⟩
  · exact .inr ⟨j,p,v,h1,by simp [Instr.findKey,run_underlying hu,h2],h3⟩
theorem XaN {P:Program} {w:World} {b:Nat} {l:Array MapEntry} {c:Nat} (h:w.heap[b]?=some (.map l c)):(getObj b).run P w=.ok (.map l c) w:=by simp [getObj,Sem.run,h]
theorem Xdy {P:Program} {w:World} {b:Nat} {l:Array MapEntry} {c:Nat} (y:Obj) (h:w.heap[b]?=some (.map l c)):(setObj b y).run P w=.ok () (Xkf w b y):=by simp [setObj,Sem.run,h,Xkf]
end
class HasZ (P:Program) (t:TypeId) (zv:outParam Value):Prop where
  z:∃ i,P.info? t=some i∧i.zero=some zv
theorem HasZ.mk_of {P:Program} {t:TypeId} {zv:Value} {s b:Nat} (h:(P.info? t).map (fun i=>(i.zero,i.size,i.bytes))=some (some zv,s,b)):HasZ P t zv:=by
  cases hi:P.info? t with
  | none=>rw [hi] at h;cases h
  | some i =>
    rw [hi] at h
    simp only [Option.map_some,Option.some.injEq,Prod.mk.injEq] at h
    exact ⟨i,hi,h.1⟩
def zPV:Value→PV
  | .agg vs=>.agg (vs.toList.map PV.v)
  | x=>.v x
theorem XoP {m:Mp} {w:World} {zv:Value} (h:zv.cells.toList.all (fun x=>x.oneCell')=true):Rep m w (zPV zv) zv:=by
  cases zv with
  | agg vs=>exact XnH (vs:=vs) (XtB (m:=m) (w:=w) (z:=vs.toList) h)
  | _=>exact .v _ rfl
theorem R.newObj {m:Mp} {H:Xh} {w:World} (h:R m H w) (B:Blk) (o:Obj) (d:Nat) (cur:Array Value) (hv:XcY (some o) B.elem cur d) (hlen:B.cells.length≤cur.size) (hown:B.own=true)
    (hr:∀ (j:Nat) (c:PV),B.cells[j]?=some c→∃ v:Value,cur[j]?=some v∧Rep m w c v∧v.oneCell'=true) :
    R { m with blk:=fun i=>if i=H.length then some (w.heap.size,d,cur.size) else m.blk i } (H++[some B]) (w.alloc o) ∧
    Le m w { m with blk:=fun i=>if i=H.length then some (w.heap.size,d,cur.size) else m.blk i } (w.alloc o):=by
  obtain ⟨h1,hle1⟩:=h.alloc_any o
  have hB:Xeu m (w.alloc o) B w.heap.size d cur.size:=by
    refine ⟨cur,by rw [heap_alloc_new w o];exact hv,rfl,by simpa using hlen,fun j c hj=>?_⟩
    obtain ⟨v,hv,hr',h1v⟩:=hr j c hj
    exact Zb5
  have h2:=h1.add B hB hown (fun hk=>by
      have:=h.kl _ hk;omega) (fun i C di li hi _ hmi=>by have:=h.lt hi hmi;omega)
  exact ⟨h2.1,hle1.trans h2.2⟩
section
variable {P:Program} {E:Env} {H H':Xh} {o:Oper} {t kt et:TypeId} {K:Type} [DecidableEq K] {kd:TypeDesc} {size bytes:Nat} {z:List Value} {zv:Value}
omit [DecidableEq K] in
theorem XmD (ky:K→Value) (ho:o.op=.makeMap t none):OpW P o E H (.mp H.length) (H++[some (XM ky [] 0)]):=fun m w ρ hR hρ=>by
  obtain ⟨a,b⟩:=hR.newObj (XM ky [] 0) (.map #[] 0) 1 #[.func (.func 0) #[] (Xej #[] 0)] ⟨_,_,rfl,rfl⟩ (by simp [XM]) rfl (fun j c hj=>by
    cases j with
    | zero =>
      simp [XM] at hj;subst hj
      exact ⟨_,rfl,Xec.2 (by simpa [Xgi,Xej] using Xbu (.v _ rfl) XiG),rfl⟩
    | succ j=>simp [XM] at hj)
  refine ⟨.map (some w.heap.size),_,_,?_,b,a,.mp (b:=w.heap.size) (lim:=1) (by simp)⟩
  simp [execOp,ho,Instr.makeMap]
theorem XcF [hu:HasU P t (.map kt et)] [huk:HasU P kt kd] [hz:HasZ P et zv] {ky:K→Value} (hk:KeyOk kd ky) {x y:Operand} {id:Nat} {k:K} {es:XbC K} {clock:Nat} {r:PV} (ho:o.op=.lookup t x y false) (hx:E.ev x=some (.mp id)) (hy:E.ev y=some (.v (ky k)))
    (hB:H[id]?=some (some (XM ky es clock))) (h1:zv.cells.toList.all (fun x=>x.oneCell')=true) (hr:(Xdr es k).getD (zPV zv)=r):OpV P o E H r:=fun m w ρ hR hρ=>by
  subst hr
  obtain ⟨b,lim,l,e1,hm,_,hh,hents⟩:=Xei hR hB (hρ x _ hx)
  have e2:=XA (hρ y _ hy)
  obtain ⟨i,hi,hzv⟩:=hz.z
  have hck:=hk.chk P kt l.isEmpty w k huk.u
  rcases Xa2 hk huk.u k hents with ⟨g1,g2⟩ | ⟨j,p,v,g1,g2,g3⟩
  · refine ⟨zv,?_,by simpa [Xdr,g1] using XoP h1⟩
    simp [execOp,ho,e1,e2,Instr.lookup,run_underlying hu.u,XaN hh,hck,g2,zeroValue,typeInfo,hi,hzv]
  · refine ⟨v,?_,by simpa [Xdr,g1] using g3⟩
    simp [execOp,ho,e1,e2,Instr.lookup,run_underlying hu.u,XaN hh,hck,g2]
theorem Xgq [hu:HasU P t (.map kt et)] [huk:HasU P kt kd] [hz:HasZ P et zv] {ky:K→Value} (hk:KeyOk kd ky) {x y:Operand} {id:Nat} {k:K} {es:XbC K} {clock:Nat} {r:PV} (ho:o.op=.lookup t x y true) (hx:E.ev x=some (.mp id)) (hy:E.ev y=some (.v (ky k)))
    (hB:H[id]?=some (some (XM ky es clock))) (h1:zv.cells.toList.all (fun x=>x.oneCell')=true) (hr:(Xdr es k).getD (zPV zv)=r):OpV P o E H (.tup [r,.v (.bool (Xdr es k).isSome)]):=fun m w ρ hR hρ=>by
  subst hr
  obtain ⟨b,lim,l,e1,hm,_,hh,hents⟩:=Xei hR hB (hρ x _ hx)
  have e2:=XA (hρ y _ hy)
  obtain ⟨i,hi,hzv⟩:=hz.z
  have hck:=hk.chk P kt l.isEmpty w k huk.u
  have pair:∀ {p:PV} {v:Value} {b:Bool},Rep m w p v→Rep m w (.tup [p,.v (.bool b)]) (.tuple #[v,.bool b]):=fun h=>.tup _ rfl fun j c hj=>by
    match j with
    | 0=>simp at hj;subst hj;exact h
    | 1=>simp at hj;subst hj;exact .v _ rfl
    | j+2=>simp at hj
  rcases Xa2 hk huk.u k hents with ⟨g1,g2⟩ | ⟨j,p,v,g1,g2,g3⟩
  · refine ⟨.tuple #[zv,.bool false],?_,by simpa [Xdr,g1] using pair (XoP h1)⟩
    simp [execOp,ho,e1,e2,Instr.lookup,run_underlying hu.u,XaN hh,hck,g2,zeroValue,typeInfo,hi,hzv]
  · refine ⟨.tuple #[v,.bool true],?_,by simpa [Xdr,g1] using pair g3⟩
    simp [execOp,ho,e1,e2,Instr.lookup,run_underlying hu.u,XaN hh,hck,g2]
omit [DecidableEq K] in
theorem Xqx {m:Mp} {w:World} {ky:K→Value} {es:XbC K} {l:List MapEntry} (h:EntsRep ky m w es l) {e:K × PV × Nat} {x:MapEntry} (h1:x.key=ky e.1) (h2:Rep m w e.2.1 x.val) (h3:x.born=e.2.2):EntsRep ky m w (es++[e]) (l++[x]):=by
  induction h with
  | nil=>exact .cons h1 h2 h3 .nil
  | cons a b c t ih=>exact .cons a b c ih
theorem Xsn {m:Mp} {w:World} {ky:K→Value} {k:K} {p q:PV} {v:Value} (hr:Rep m w p v) {es:XbC K} {l:List MapEntry} (h:EntsRep ky m w es l):∀ (i s:Nat),Xcc k es s=some (i+s,q) →
    EntsRep ky m w (Xib es i k p) (l.modify i fun e=>{ e with key:=ky k,val:=v })∧∃ x,l[i]?=some x∧x.key=ky k:=by
  induction h with
  | nil=>intro i s h;simp [Xcc] at h
  | @cons e es x l h1 h2 h3 t ih =>
    intro i s h
    simp only [Xcc] at h
    split at h
    · rename_i e1
      simp only [Option.some.injEq,Prod.mk.injEq] at h
      have:i=0:=by omega
      subst this
      exact ⟨.cons rfl hr h3 t,x,rfl,by rw [h1,e1]⟩
    · cases i with
      | zero=>have:=Xnr k es (s+1) _ _ h;omega
      | succ i =>
        obtain ⟨a,x',hx',hk'⟩:=ih i (s+1) (by rw [h];congr 2;omega)
        exact ⟨.cons h1 h2 h3 a,x',by simpa using hx',hk'⟩
theorem Xcz [hu:HasU P t (.map kt et)] [huk:HasU P kt kd] {ky:K→Value} (hk:KeyOk kd ky) {x y z:Operand} {id:Nat} {k:K} {p:PV} {es:XbC K} {clock:Nat} (ho:o.op=.mapUpdate t x y z) (hx:E.ev x=some (.mp id)) (hy:E.ev y=some (.v (ky k))) (hz:E.ev z=some p)
    (hB:H[id]?=some (some (XM ky es clock))):OpS P o E H (H.set id (some (XM ky (Xgt es clock k p) (Xgu es clock k)))):=fun m w ρ hR hρ=>by
  obtain ⟨b,lim,l,e1,hm,hlim,hh,hents⟩:=Xei hR hB (hρ x _ hx)
  have e2:=XA (hρ y _ hy)
  have hp:=hρ z _ hz
  have hck:=hk.chk P kt false w k huk.u
  have hlt:b < w.heap.size:=(Array.getElem?_eq_some_iff.1 hh).1
  have turn:∀ (l':Array MapEntry) (c':Nat),EntsRep ky m w (Xgt es clock k p) l'.toList→c'=Xgu es clock k →
      R m (H.set id (some (XM ky (Xgt es clock k p) (Xgu es clock k)))) (Xkf w b (.map l' c'))∧Le m w m (Xkf w b (.map l' c')):=fun l' c' hl' hc'=>by
    subst hc'
    refine hR.rewrite (w':=Xkf w b (.map l' (Xgu es clock k))) hB rfl hm (cur':=#[.func (.func 0) #[] (Xej l' (Xgu es clock k))]) (cs:=[.fn (.func 0) (Xgi ky (Xgt es clock k p) (Xgu es clock k))])
      XgY rfl rfl rfl (fun j hj=>XfT hj) ⟨_,_,XgZ hlt,rfl⟩ (by simp [hlim]) (by simp [hlim]) (fun j c hj=>?_)
    cases j with
    | zero =>
      simp at hj;subst hj
      exact ⟨_,rfl,Xec.2 (show CR m w (Xgi ky (Xgt es clock k p) (Xgu es clock k)) (Xej l' (Xgu es clock k)).toList from Xbu (.v _ rfl) (Xnx hk hl')),rfl⟩
    | succ j=>simp at hj
  rcases Xa2 hk huk.u k hents with ⟨g1,g2⟩ | ⟨j,q,v,g1,g2,g3⟩
  · obtain ⟨r1,r2⟩:=turn (l.push { key:=ky k,val:=ρ z,born:=clock }) (clock+1) (by simpa [Xgt,g1] using Xqx hents (e:=(k,p,clock)) rfl hp rfl) (by simp [Xgu,g1])
    refine ⟨m,_,?_,r2,r1⟩
    have hso:=Xdy (P:=P) (.map (l.push { key:=ky k,val:=ρ z,born:=clock }) (clock+1)) hh
    simp only [execOp,ho,e1,e2,Instr.mapUpdate,Sem.run_bind,run_underlying hu.u,Result.andThen_ok,XaN hh,hck,g2,hso,Sem.run_pure]
  · obtain ⟨a,x',hx',hkx⟩:=Xsn hp hents j 0 g1
    have hmod:(l.modify j fun e=>{ e with key:=ky k,val:=ρ z }).toList=l.toList.modify j fun e=>{ e with key:=ky k,val:=ρ z }:=by simp
    obtain ⟨r1,r2⟩:=turn (l.modify j fun e=>{ e with key:=ky k,val:=ρ z }) clock (by rw [hmod];simpa [Xgt,g1] using a) (by simp [Xgu,g1])
    refine ⟨m,_,?_,r2,r1⟩
    have hso:=Xdy (P:=P) (.map (l.modify j fun e=>{ e with key:=ky k,val:=ρ z }) clock) hh
    have hx'':l[j]?=some x':=by simpa using hx'
    have hst:(Instr.keyThatStays x'.key (ky k)).run P w=.ok (ky k) w:=by rw [hkx];simp [Instr.keyThatStays,hk.bits]
    simp only [execOp,ho,e1,e2,Instr.mapUpdate,Sem.run_bind,run_underlying hu.u,Result.andThen_ok,XaN hh,hck,g2,hx'',Option.map_some,Option.getD_some,hst,hso,Sem.run_pure]
omit [DecidableEq K] in
end
section
variable {P:Program} {n:Nat} {Q:QA} {E:Env} {H:Xh} {ops:Array Oper} {rest:List Oper} {o:Oper} {t kt et:TypeId} {d:Nat} {L:List (Nat × Blk)} {id:Nat} {K:Type} [DecidableEq K] {kd:TypeDesc}
omit [DecidableEq K] in
theorem XiK (ky:K→Value) (hG:Has H L) (hg:o.guard=none) (hd:o.dst=some d) (hn:d < n) (ho:o.op=.makeMap t none)
    (h:∀ id G,Has G ((id,XM ky [] 0)::L)→wpL P n ops rest Q ((d,.mp id)::E) G):wpL P n ops (o::rest) Q E H :=
  XfK hg hd hn (XmD ky ho) (h _ _ (hG.new _))
theorem XiJ [hu:HasU P t (.map kt et)] [huk:HasU P kt kd] {ky:K→Value} (hkk:KeyOk kd ky) {x y z:Operand} {key:K} {p:PV} {es:XbC K} {clock:Nat} (k:Nat) (hG:Has H L) (hg:o.guard=none) (hd:o.dst=none) (ho:o.op=.mapUpdate t x y z)
    (hx:E.ev x=some (.mp id)) (hy:E.ev y=some (.v (ky key))) (hz:E.ev z=some p) (hk:L[k]?=some (id,XM ky es clock))
    (h:∀ G,Has G (L.set k (id,XM ky (Xgt es clock key p) (Xgu es clock key)))→wpL P n ops rest Q E G):wpL P n ops (o::rest) Q E H :=
  Xxi hg hd (Xcz hkk ho hx hy hz (hG.get k id _ hk)) (h _ (hG.set hk _))
end
end Go.Th
namespace Go.Th
open Go.RowKit
def YC (P:Program) (lid:Nat) (args:List PV) (G:Xh) (Q:PV→Xh→Prop):Prop :=
  ∀ m w vals b lim,R m G w→m.blk lid=some (b,4,lim)→XeK m w args vals→∃ fn tmps assign body,(Instr.yield b vals).run P w=.ok (.round b fn tmps assign body) w ∧
    RoundIn Fence.wide 0 P b fn tmps assign body w fun e w'=>∃ v p G' m',e=.returned v∧Q p G'∧Rep m' w' p v∧R m' G' w'∧Le m w m' w'
theorem YC.mono {P:Program} {lid:Nat} {args:List PV} {G:Xh} {Q Q':PV→Xh→Prop} (h:YC P lid args G Q) (hq:∀ p H,Q p H→Q' p H):YC P lid args G Q':=fun m w vals b lim h1 h2 h3=>by
  obtain ⟨fn,tmps,assign,body,a,b⟩:=h m w vals b lim h1 h2 h3
  refine ⟨fn,tmps,assign,body,a,b.mono ?_⟩
  rintro e w' ⟨v,p,G',m',h1,h2,h3⟩
  exact ⟨v,p,G',m',h1,hq _ _ h2,h3⟩
theorem Xf2 {rd:Option Nat} {k:Nat} {P:Program} {l:Nat} {f:FuncId} {tmps:Array Value} {assign body:Code} {w:World} {R:Ending→World→Prop} (h:RoundIn Fence.wide k P l f tmps assign body w R):RoundIn (fen rd) k P l f tmps assign body w R:=by
  cases rd <;> exact h
section
variable {P:Program} {rd:Option Nat} {o:Oper} {a:Act} {w w':World} {K:Act→World→Prop} {Q:Exit→Act→World→Prop}
theorem XrR {l:Nat} {f:FuncId} {tmps:Array Value} {assign body:Code} (h:(execOp a.eval o).run P w=.ok (.round l f tmps assign body) w')
    (k:RoundIn Fence.wide 0 P l f tmps assign body w' fun e w''=>∃ v,e=.returned v∧K (a.put o.dst v) w''):o.wpIn (fen rd) 0 P a w K Q:=by
  refine ⟨fun f _=>Xcm rd f,?_⟩
  rw [XgA h (fun d=>by simp),h,Oper.uponIn_round]
  refine ⟨XcT rd,Xf2 (k.mono ?_)⟩
  rintro e w'' ⟨v,rfl,hk⟩
  exact hk
end
theorem XsM {m:Mp} {w:World} {E:Env} {ρ:Operand→Value} (hρ:∀ x q,E.ev x=some q→Rep m w q (ρ x)) {c:Array Operand} {ps:List PV} (ha:evs E c.toList=some ps):XeK m w ps (c.map ρ):=by
  obtain ⟨e1,e2⟩:=Xdb (m:=m) (w:=w) hρ c.toList ps ha
  refine ⟨by simp [e1],fun j q hj=>?_⟩
  have:=e2 j q hj
  simpa [Array.getD_eq_getD_getElem?,List.getD_eq_getElem?_getD] using this
section
variable {P:Program} {n:Nat} {Q:QA} {E:Env} {H:Xh} {ops:Array Oper} {rest:List Oper}
theorem Xxf {o:Oper} {c:Call} {x:Operand} {lid d:Nat} {args:List PV} {QC:PV→Xh→Prop} (hg:o.guard=none) (hd:o.dst=some d) (hn:d < n) (ho:o.op=.call c) (hc:c.callee=.value x) (hx:E.ev x=some (.yld lid))
    (ha:evs E c.args.toList=some args) (h:YC P lid args H QC) (k:∀ p H',QC p H'→wpL P n ops rest Q ((d,p)::E) H'):wpL P n ops (o::rest) Q E H:=by
  rintro rd m0 w0 a w ⟨h1,h2,m,h3,h4,h5⟩
  refine wpListIn_plain hg fun K hK=>?_
  have hxr:=h5.ev hx
  have hA:=XsM (m:=m) (w:=w) (ρ:=a.eval) (fun x q hx=>h5.ev hx) ha
  generalize hv:a.eval x=v at hxr
  cases hxr with
  | @yld _ b lim hb =>
    obtain ⟨fn,tmps,assign,body,hy,hround⟩:=h m w _ b lim h4 hb hA
    have hrun:(execOp a.eval o).run P w=.ok (.round b fn tmps assign body) w:=by
      simp [execOp,ho,resolve,hc,hv,Deferred.ofValue,invoke,hy]
    refine XrR hrun (hround.mono ?_)
    rintro e w' ⟨v,p,G',m',rfl,hq,hr,hR,hle⟩
    refine ⟨v,rfl,hK _ _ ?_⟩
    rw [hd]
    exact k p G' hq rd m0 w0 (a.put (some d) v) w' ⟨by simp [Act.put,h1],h2,m',h3.trans hle,hR,(h5.mono h4.rk hle).put (by omega) hr⟩
end
def Xig (fn:FuncId) (ps:Array Tmp) (assign body:Code) (n:Nat) (E:Env) (s p:Nat):Blk :=
  ⟨[.fn (.func 3) (.v (.int .i64 (s:Nat))::.v (.int .i64 (p:Nat))::(E.map (·.1)).map fun t=>(E.get t).getD (.v undef))],.loop fn ps assign body n (E.map (·.1)),true⟩
def Xtz (m:Mp) (w:World) (E:Env) (tmps:Array Value):Prop:=∀ t p,E.get t=some p→Rep m w p (tmps.getD t undef)
theorem Xvm {E:Env} {t:Nat} {p:PV} (h:E.get t=some p):t ∈ E.map (·.1):=by
  induction E with
  | nil=>simp [Env.get] at h
  | cons x r ih =>
    obtain ⟨s,q⟩:=x
    rw [Env.get_cons] at h
    by_cases e:s=t
    · simp [e]
    · rw [if_neg e] at h;simp [ih h]
theorem XuN {E:Env} {t:Nat} (h:t ∈ E.map (·.1)):∃ p,E.get t=some p:=by
  induction E with
  | nil=>simp at h
  | cons x r ih =>
    obtain ⟨s,q⟩:=x
    rw [Env.get_cons]
    by_cases e:s=t
    · exact ⟨q,by rw [if_pos e]⟩
    · rw [if_neg e]
      refine ih ?_
      simp only [List.map_cons,List.mem_cons] at h
      rcases h with h | h
      · exact absurd h.symm e
      · exact h
theorem XlC {m:Mp} {w:World} {E:Env} {tmps:Array Value} (s p:Nat) (h:Xtz m w E tmps) :
    Rep m w (.fn (.func 3) (.v (.int .i64 (s:Nat))::.v (.int .i64 (p:Nat))::(E.map (·.1)).map fun t=>(E.get t).getD (.v undef)))
      (.func (.func 3) #[] ((Value.int .i64 (s:Nat)::.int .i64 (p:Nat)::(E.map (·.1)).map fun t=>tmps.getD t undef).toArray)):=by
  refine Xec.2 (Xbu (.v _ rfl) (Xbu (.v _ rfl) ?_))
  have key:∀ ts:List Nat,(∀ t ∈ ts,∃ q,E.get t=some q)→CR m w (ts.map fun t=>(E.get t).getD (.v undef)) (ts.map fun t=>tmps.getD t undef):=by
    intro ts
    induction ts with
    | nil=>exact fun _=>XiG
    | cons t ts ih =>
      intro hts
      obtain ⟨q,hq⟩:=hts t (by simp)
      refine Xbu ?_ (ih fun t' ht'=>hts t' (by simp [ht']))
      show Rep m w ((E.get t).getD (.v undef)) (tmps.getD t undef)
      rw [hq];exact h t q hq
  exact key _ fun t ht=>XuN ht
theorem Xpq {m:Mp} {H:Xh} {w:World} (hR:R m H w) {fn:FuncId} {ps:Array Tmp} {assign body:Code} {n:Nat} {E:Env} {s p lid b lim:Nat} (hB:H[lid]?=some (some (Xig fn ps assign body n E s p))) (hm:m.blk lid=some (b,4,lim)) :
    ∃ tmps D,w.heap[b]?=some (.loop { state:=XjR s,pending:=XbU p,fn,tmps,params:=ps,assign,body,defers:=D })∧tmps.size=n∧Xtz m w E tmps∧¬ m.keep b∧lim=1∧s≤3:=by
  obtain ⟨_,⟨cur,⟨fn',ps',as',bo',n',ts',tmps,D,s',p',h0,he,h1,hn,rfl⟩,h2,h3,h4⟩,hk,_⟩:=hR.blk lid _ b 4 lim hB hm
  simp only [Xig,Elem.loop.injEq] at he
  obtain ⟨rfl,rfl,rfl,rfl,rfl,rfl⟩:=he
  obtain ⟨u,hu,hru,_⟩:=h4 0 _ rfl
  have hu:_=u:=Option.some.inj hu
  subst hu
  have hc:=Xec.1 hru
  obtain ⟨_,_,e1,r1,hc1⟩:=Xa8 hc
  simp only [List.cons.injEq] at e1
  obtain ⟨rfl,rfl⟩:=e1
  obtain ⟨_,_,e2,r2,hc2⟩:=Xa8 hc1
  simp only [List.cons.injEq] at e2
  obtain ⟨rfl,rfl⟩:=e2
  have i1:Value.int .i64 (s':Nat)=Value.int .i64 (s:Nat):=XA r1
  have i2:Value.int .i64 (p':Nat)=Value.int .i64 (p:Nat):=XA r2
  have j1:s'=s:=by injection i1;omega
  have j2:p'=p:=by injection i2;omega
  subst j1;subst j2
  refine ⟨tmps,D,h1,hn,fun t q ht=>?_,hk rfl,by simpa using h2.symm,h0⟩
  obtain ⟨j,hj⟩:=List.mem_iff_getElem?.1 (Xvm ht)
  obtain ⟨u,hu,hr⟩:=hc2.2 j q (by
    rw [List.getElem?_map,hj]
    simp [ht])
  rw [List.getElem?_map,hj] at hu
  have hu:tmps.getD t undef=u:=Option.some.inj hu
  rw [hu];exact hr
theorem XrE {m:Mp} {H:Xh} {w:World} (hR:R m H w) {fn:FuncId} {ps:Array Tmp} {assign body:Code} {n:Nat} {E:Env} {s p lid b lim:Nat} (hB:H[lid]?=some (some (Xig fn ps assign body n E s p))) (hm:m.blk lid=some (b,4,lim))
    (s' p':Nat) (hs':s'≤3) {tmps:Array Value} {D:Nat} (hsz:tmps.size=n) (ht:Xtz m w E tmps) :
    R m (H.set lid (some (Xig fn ps assign body n E s' p'))) (w.putObj b (.loop { state:=XjR s',pending:=XbU p',fn,tmps,params:=ps,assign,body,defers:=D })) ∧
    Le m w m (w.putObj b (.loop { state:=XjR s',pending:=XbU p',fn,tmps,params:=ps,assign,body,defers:=D })):=by
  obtain ⟨_,_,_,_,_,_,hlim,_⟩:=Xpq hR hB hm
  have hlt:=hR.lt hB hm
  refine hR.rewrite (w':=w.putObj b (.loop { state:=XjR s',pending:=XbU p',fn,tmps,params:=ps,assign,body,defers:=D })) hB rfl hm
    (cur':=#[.func (.func 3) #[] ((Value.int .i64 (s':Nat)::.int .i64 (p':Nat)::(E.map (·.1)).map fun t=>tmps.getD t undef).toArray)])
    (cs:=[.fn (.func 3) (.v (.int .i64 (s':Nat))::.v (.int .i64 (p':Nat))::(E.map (·.1)).map fun t=>(E.get t).getD (.v undef))])
    (by simp) rfl rfl rfl (fun j hj=>World.putObj_heap_other hj) ⟨fn,ps,assign,body,n,E.map (·.1),tmps,D,s',p',hs',rfl,World.putObj_heap_same hlt,hsz,rfl⟩ (by simp [hlim]) (by simp [hlim]) (fun j c hj=>?_)
  cases j with
  | zero =>
    have hj:_=c:=Option.some.inj hj
    subst hj
    exact ⟨_,rfl,XlC s' p' ht,rfl⟩
  | succ j=>simp at hj
theorem XrG {m:Mp} {H:Xh} {w:World} (hR:R m H w) {lid b d lim:Nat} {B:Blk} (hB:H[lid]?=some (some B)) (hown:B.own=true) (hm:m.blk lid=some (b,d,lim)) :
    R { m with keep:=fun k=>m.keep k∨k=b } (H.set lid none) w∧Le m w { m with keep:=fun k=>m.keep k∨k=b } w:=by
  have hle:Le m w { m with keep:=fun k=>m.keep k∨k=b } w:=⟨fun _ _ h=>h,fun _ h=>h,fun _ h=>.inl h,fun _ _=>rfl,Nat.le_refl _,rfl,rfl,rfl,fun _ h=>.inl h,rfl,fun _ _=>rfl⟩
  refine ⟨⟨fun k hk=>.inl (hR.rk k hk),fun k hk=>?_,fun i x hx=>by simpa using hR.dom i x hx,fun i C c d' li hi hmi=>?_,fun i j C D' bi di li bj dj lj hne hi hj=>?_,by simpa using hR.top⟩,hle⟩
  · rcases hk with hk | rfl
    · exact hR.kl k hk
    · exact hR.lt hB hm
  · rcases XH hi with ⟨_,e⟩ | ⟨n1,e⟩
    · cases e
    · obtain ⟨g0,⟨cur',g1,g2,g3,g4⟩,g5,g6⟩:=hR.blk i C c d' li e hmi
      refine ⟨g0,⟨cur',g1,g2,g3,fun j q hj=>let ⟨u,u1,u2,u3⟩:=g4 j q hj;⟨u,u1,u2.mono hR.rk hle,u3⟩⟩,fun hoC hk=>?_,fun hoC=>g6 hoC⟩
      rcases hk with hk | rfl
      · exact g5 hoC hk
      · exact hR.inj i lid C B _ _ _ _ _ _ n1 e hB hoC hown hmi hm rfl
  · rcases XH hi with ⟨_,e⟩ | ⟨n1,ei⟩
    · cases e
    · rcases XH hj with ⟨_,e⟩ | ⟨n2,ej⟩
      · cases e
      · exact hR.inj i j C D' bi di li bj dj lj hne ei ej
theorem R.putKept {m:Mp} {H:Xh} {w:World} (h:R m H w) {b:Nat} {r r':Loop} (hb:w.heap[b]?=some (.loop r)) (hk:m.keep b) (hro:¬ m.ro b):R m H (w.putObj b (.loop r')):=by
  have hcell:∀ c o:Nat,m.ro c→(w.putObj b (.loop r')).cell? ⟨c,o,none⟩=w.cell? ⟨c,o,none⟩:=fun c o hc =>
    World.cell?_of_block (World.putObj_heap_other (fun e:c=b=>hro (by rw [← e];exact hc)))
  refine ⟨h.rk,fun c hc=>by simpa using h.kl c hc,h.dom,fun id B c d lim hi hm=>?_,h.inj,h.top⟩
  obtain ⟨h0,⟨cur,h1,h2,h3,h4⟩,h5,h6⟩:=h.blk id B c d lim hi hm
  have hne:c≠b:=fun e=>by
    subst e
    cases ho:B.own with
    | true=>exact h5 ho hk
    | false=>exact hro (h6 ho)
  exact ⟨h0,⟨cur,by rw [World.putObj_heap_other hne];exact h1,h2,h3,fun j p hj=>let ⟨v,v1,v2,v3⟩:=h4 j p hj;⟨v,v1,v2.mono' (fun _ _ h=>h) (fun _ h=>h) hcell,v3⟩⟩,h5,h6⟩
theorem Rep.putKept {m:Mp} {w:World} {b:Nat} {o:Obj} (hro:¬ m.ro b) {p:PV} {v:Value} (r:Rep m w p v):Rep m (w.putObj b o) p v :=
  r.mono' (fun _ _ h=>h) (fun _ h=>h) (fun c o hc=>World.cell?_of_block (World.putObj_heap_other (fun e:c=b=>hro (by rw [← e];exact hc))))
theorem XrF {m:Mp} {H:Xh} {w:World} (hR:R m H w) {fn:FuncId} {ps:Array Tmp} {assign body:Code} {n:Nat} {E:Env} {s p lid b:Nat} {tmps:Array Value} {D:Nat} (hm:m.blk lid=some (b,4,1)) (hk:m.keep b) (hro:¬ m.ro b)
    (hb:w.heap[b]?=some (.loop { state:=XjR s,pending:=XbU p,fn,tmps,params:=ps,assign,body,defers:=D })) (hs:s≤3) (hsz:tmps.size=n) (ht:Xtz m w E tmps) :
    R { m with keep:=fun k=>m.keep k∧k≠b } (H.set lid (some (Xig fn ps assign body n E s p))) w∧∀ B,H[lid]?≠some (some B):=by
  have rep:∀ q v,Rep m w q v→Rep { m with keep:=fun k=>m.keep k∧k≠b } w q v:=fun q v h=>Rep.mono' (m:=m) (m':={ m with keep:=fun k=>m.keep k∧k≠b }) (w:=w) (w':=w) (fun _ _ h=>h) (fun _ h=>h) (fun _ _ _=>rfl) h
  have dead:∀ i B d li,H[i]?=some (some B)→m.blk i≠some (b,d,li):=fun i B d li hi hmi=>by
    obtain ⟨_,_,h5,h6⟩:=hR.blk i B b d li hi hmi
    cases ho:B.own with
    | true=>exact h5 ho hk
    | false=>exact hro (h6 ho)
  have hR':R { m with keep:=fun k=>m.keep k∧k≠b } H w:=by
    refine ⟨fun k h=>⟨hR.rk k h,fun e=>hro (e ▸ h)⟩,fun k h=>hR.kl k h.1,hR.dom,fun i C c d li hi hmi=>?_,hR.inj,hR.top⟩
    obtain ⟨g0,⟨cur,g1,g2,g3,g4⟩,g5,g6⟩:=hR.blk i C c d li hi hmi
    exact ⟨g0,⟨cur,g1,g2,g3,fun j q hj=>let ⟨u,u1,u2,u3⟩:=g4 j q hj;⟨u,u1,rep _ _ u2,u3⟩⟩,fun ho h=>g5 ho h.1,g6⟩
  refine ⟨?_,fun B hB=>dead lid B _ _ hB hm⟩
  refine hR'.put (id:=lid) (Xig fn ps assign body n E s p) hm ⟨_,⟨fn,ps,assign,body,n,E.map (·.1),tmps,D,s,p,hs,rfl,hb,hsz,rfl⟩,rfl,by simp [Xig],fun j c hj=>?_⟩ rfl (fun h=>h.2 rfl) (fun i C di li _ hi _=>dead i C di li hi)
  cases j with
  | zero =>
    have hj:_=c:=Option.some.inj hj
    subst hj
    exact ⟨_,rfl,rep _ _ (XlC s p ht),rfl⟩
  | succ j=>simp [Xig] at hj
def Xdg:List Tmp→List PV→Env→Env
  | t::ts,p::ps,E=>Xdg ts ps ((t,p)::E)
  | _,_,E=>E
theorem Xfm {m:Mp} {w:World} {n:Nat}:∀ (ts:List Tmp) (ps:List PV) (vs:List Value) (E:Env) (tmps:Array Value),(∀ t ∈ ts,t < n)→tmps.size=n→Xtz m w E tmps→ps.length=ts.length →
    CR m w ps vs→((ts.zip vs).foldl (fun tmps (t,a)=>tmps.setIfInBounds t a) tmps).size=n∧Xtz m w (Xdg ts ps E) ((ts.zip vs).foldl (fun tmps (t,a)=>tmps.setIfInBounds t a) tmps)
  | [],[],vs,E,tmps,_,hs,hE,_,_=>by simpa [Xdg] using ⟨hs,hE⟩
  | [],_::_,_,_,_,_,_,_,h,_=>by simp at h
  | _::_,[],_,_,_,_,_,_,h,_=>by simp at h
  | t::ts,p::ps,vs,E,tmps,hts,hs,hE,hl,hv=>by
    obtain ⟨v,vs,rfl,hr,hv⟩:=Xa8 hv
    have hlt:=hts t (by simp)
    exact Xfm ts ps vs ((t,p)::E) (tmps.setIfInBounds t v) (fun t' ht'=>hts t' (by simp [ht'])) (by simp [hs]) (fun t' q hq=>by
      rw [Env.get_cons] at hq
      by_cases e:t=t'
      · subst e
        rw [if_pos rfl] at hq;cases hq
        simpa [Array.getD_eq_getD_getElem?,hs,hlt] using hr
      · rw [if_neg e] at hq
        have:=hE t' q hq
        simpa [Array.getD_eq_getD_getElem?,Array.getElem?_setIfInBounds_ne e] using this) (by simpa using hl) hv
def Xpk {S:Type} (K:List (Nat × Blk)) (L:S→List (Nat × Blk)) (I:S→Prop) (X:Nat→S→Prop):QA:=fun e _ G=>match e with
  | .normal=>∃ s,I s∧Has G (L s++K)
  | .ret=>∃ s,X 1 s∧Has G (L s++K)
  | .exit k=>∃ s,X (k+2) s∧Has G (L s++K)
  | _=>False
theorem Has.revive {H:Xh} {L:List (Nat × Blk)} {id:Nat} (h:Has H L) (hlt:id < H.length) (hd:∀ B,H[id]?≠some (some B)) (B:Blk):Has (H.set id (some B)) ((id,B)::L):=by
  have hne:∀ (k:Nat) (x:Nat × Blk),L[k]?=some x→x.1≠id:=fun k x hk e=>hd x.2 (by rw [← e];exact h.get k x.1 x.2 hk)
  refine ⟨fun k i C hk=>?_,fun i j x y hij hi hj=>?_⟩
  · cases k with
    | zero =>
      simp at hk;obtain ⟨rfl,rfl⟩:=hk
      simp [hlt]
    | succ k =>
      have hk:L[k]?=some (i,C):=by simpa using hk
      exact get_set_ne (h.get k i C hk) (fun e=>hne k _ hk e.symm)
  · cases i with
    | zero =>
      cases j with
      | zero=>exact absurd rfl hij
      | succ j=>simp at hi hj;subst hi;exact fun e=>hne j y hj e.symm
    | succ i =>
      cases j with
      | zero=>simp at hi hj;subst hj;exact hne i x hi
      | succ j=>exact h.ne i j x y (by omega) (by simpa using hi) (by simpa using hj)
theorem Xq7 {P:Program} {n:Nat} {fn:FuncId} {ps:Array Tmp} {assign body:Code} {E:Env} {lid:Nat} {args:List PV} {S:Type} {K:List (Nat × Blk)} {L:S→List (Nat × Blk)} {I:S→Prop} {X:Nat→S→Prop} {s0:S} {G:Xh}
    (hl:args.length=ps.size) (hps:∀ t ∈ ps.toList,t < n) (hG:Has G ((lid,Xig fn ps assign body n E 0 0)::(L s0++K)))
    (h:∀ G,Has G (L s0++K)→wpA P n assign (Xe0 (wpA P n body (Xpk K L I X)) (fun _ _ _=>False)) (Xdg ps.toList args E) G) :
    YC P lid args G (fun p G'=>(p=.v (.bool true)∧∃ s,I s∧Has G' ((lid,Xig fn ps assign body n E 0 0)::(L s++K))) ∨
      (p=.v (.bool false)∧∃ k s,1≤k∧X k s∧Has G' ((lid,Xig fn ps assign body n E 2 k)::(L s++K)))):=by
  intro m w vals b lim hR hm hv
  have hB:=hG.get 0 lid _ rfl
  obtain ⟨tmps,D,hh,hsz,hT,hnk,rfl,_⟩:=Xpq hR hB hm
  have hvs:vals.size=ps.size:=hv.1.trans hl
  have hcr:CR m w args vals.toList:=by
    refine ⟨by simpa using hv.1,fun j c hj=>?_⟩
    have hlt:j < vals.size:=by rw [hv.1];exact (List.getElem?_eq_some_iff.1 hj).1
    exact ⟨vals[j],by simp [hlt],by simpa [Array.getD_eq_getD_getElem?,hlt] using hv.2 j c hj⟩
  have hy:=run_yield (P:=P) (args:=vals) hh hvs
  obtain ⟨p2,p3⟩:=Xfm (m:=m) (w:=w) ps.toList args vals.toList E tmps hps hsz hT (by simpa using hl) hcr
  have hfold:(ps.zip vals).foldl (fun tmps (t,a)=>tmps.setIfInBounds t a) tmps=(ps.toList.zip vals.toList).foldl (fun tmps (t,a)=>tmps.setIfInBounds t a) tmps:=by
    rw [← Array.foldl_toList];simp
  simp only at hy
  rw [hfold] at hy
  refine ⟨_,_,_,_,hy,roundIn_of_wpIn (F:=Fence.wide) trivial ?_⟩
  have hnro:¬ m.ro b:=fun hr=>hnk (hR.rk b hr)
  obtain ⟨hRh,hleh⟩:=XrG hR hB rfl hm
  have hrep:∀ q v,Rep m w q v→Rep { m with keep:=fun k=>m.keep k∨k=b } w q v:=fun q v r=>r.mono hR.rk hleh
  have hass:=h _ hG.forget (some b) { m with keep:=fun k=>m.keep k∨k=b } w { tmps:=(ps.toList.zip vals.toList).foldl (fun tmps (t,a)=>tmps.setIfInBounds t a) tmps,defers:=[] } w
    ⟨p2,(fun l hl=>by cases hl;exact ⟨.inr rfl,_,hh⟩),_,LeD.refl _ w,hRh,fun t q hq=>hrep _ _ (p3 t q hq)⟩
  refine wpIn_mono hass ?_
  rintro e a1 w1 ⟨E1,G1,hq,z1,_,m1,⟨hl1,bs,b1,b2,b3⟩,hR1,hF1⟩
  cases e with
  | normal =>
    have hk1:m1.keep b:=hl1.keep b (.inr rfl)
    have hh1:=(hl1.same b (.inr rfl)).trans hh
    have hlt1:b < w1.heap.size:=(Array.getElem?_eq_some_iff.1 hh1).1
    have hlt:b < w.heap.size:=(Array.getElem?_eq_some_iff.1 hh).1
    have hnro1:¬ m1.ro b:=fun hr=>(hl1.fresh b hr).elim (fun h1=>hnro h1) (fun h1=>h1 (.inr rfl))
    have hbr:=run_beginRound (P:=P) hh1 rfl
    simp only at hbr
    obtain ⟨rb,hrb⟩:∃ rb:Loop,rb={ state:=.busy,pending:=XbU 0,fn,tmps,params:=ps,assign,body,defers:=D }:=⟨_,rfl⟩
    rw [← hrb] at hbr
    have hR2:=hR1.putKept (r':=rb) hh1 hk1 hnro1
    have hl2:Le { m with keep:=fun k=>m.keep k∨k=b } (w.putObj b (.loop rb)) m1 (w1.putObj b (.loop rb)):=by
      refine ⟨hl1.blk,hl1.ro,hl1.keep,fun c hc=>?_,by simpa using hl1.size,hl1.os,hl1.tape,hl1.output,hl1.fresh,hl1.top,hl1.old⟩
      by_cases e:c=b
      · subst e
        rw [World.putObj_heap_same hlt1,World.putObj_heap_same hlt]
      · rw [World.putObj_heap_other e,World.putObj_heap_other e];exact hl1.same c hc
    have hbody:=hq (some b) { m with keep:=fun k=>m.keep k∨k=b } (w.putObj b (.loop rb)) a1 (w1.putObj b (.loop rb))
      ⟨z1,(fun l hl=>by cases hl;exact ⟨.inr rfl,rb,World.putObj_heap_same hlt⟩),m1,⟨hl2,bs,b1,b2,fun c hc=>by
        obtain ⟨c1,c2,c3⟩:=b3 c hc
        exact ⟨c1,c2,(World.putObj_heap_other (fun e=>c2 (.inr e))).trans c3⟩⟩,hR2,fun t q hq=>(hF1 t q hq).putKept hnro1⟩
    refine ⟨_,hbr,wpIn_mono hbody ?_⟩
    rintro e a3 w3 ⟨E3,G3,hq3,_,_,m3,⟨hl3,_⟩,hR3,_⟩
    have hk3:m3.keep b:=hl3.keep b (.inr rfl)
    have hh3:=(hl3.same b (.inr rfl)).trans (World.putObj_heap_same hlt)
    have hlt3:b < w3.heap.size:=(Array.getElem?_eq_some_iff.1 hh3).1
    have hnro3:¬ m3.ro b:=fun hr=>(hl3.fresh b hr).elim (fun h1=>hnro h1) (fun h1=>h1 (.inr rfl))
    have hm3:m3.blk lid=some (b,4,1):=hl3.blk lid _ hm
    have fin:∀ (p st:Nat) (s:S),XjR st=(if (XbU p).isNone then .ready else .done)→st≤3→Has G3 (L s++K) →
        ∃ v w',(Instr.endRound b (XbU p)).run P w3=.ok v w'∧∃ v1 G' m',Ending.returned v=.returned v1∧Rep m' w' (.v (.bool (XbU p).isNone)) v1∧R m' G' w'∧Le m w m' w'∧Has G' ((lid,Xig fn ps assign body n E st p)::(L s++K)):=fun p st s hst hst3 hH=>by
      have he:=run_endRound (P:=P) (XbU p) hh3
      subst hrb
      simp only at he
      rw [← hst] at he
      have hR4:=hR3.putKept (r':={ state:=XjR st,pending:=XbU p,fn,tmps,params:=ps,assign,body,defers:=D }) hh3 hk3 hnro3
      have hT4:Xtz m3 (w3.putObj b (.loop { state:=XjR st,pending:=XbU p,fn,tmps,params:=ps,assign,body,defers:=D })) E tmps:=fun t q hq =>
        Rep.putKept hnro3 (Rep.mono (m:={ m with keep:=fun k=>m.keep k∨k=b }) (fun c hc=>Or.inl (hR.rk c hc)) hl3 (Rep.putKept (m:={ m with keep:=fun k=>m.keep k∨k=b }) hnro (hrep _ _ (hT t q hq))))
      obtain ⟨hRs,hdead⟩:=XrF hR4 hm3 hk3 hnro3 (World.putObj_heap_same hlt3) hst3 hsz hT4
      refine ⟨_,_,he,_,_,_,rfl,.v _ rfl,hRs,?_,hH.revive (hR3.dom lid _ hm3) hdead _⟩
      refine ⟨hl3.blk,hl3.ro,fun c hc=>⟨hl3.keep c (.inl hc),fun e=>hnk (e ▸ hc)⟩,fun c hc=>?_,by have:=hl3.size;simp only [World.putObj_size] at this ⊢;omega,hl3.os,hl3.tape,hl3.output,fun c hc=>?_,hl3.top,hl3.old⟩
      · have hne:c≠b:=fun e=>hnk (e ▸ hc)
        rw [World.putObj_heap_other hne,hl3.same c (.inl hc),World.putObj_heap_other hne]
      · rcases hl3.fresh c hc with h1 | h1
        · exact .inl h1
        · exact .inr fun h2=>h1 (.inl h2)
    cases e with
    | normal =>
      obtain ⟨s,hI,hH⟩:=hq3
      obtain ⟨v,w',h1,v1,G',m',h2,h3,h4,h5,h6⟩:=fin 0 0 s rfl (by omega) hH
      exact ⟨v,w',h1,v1,_,G',m',h2,.inl ⟨rfl,s,hI,h6⟩,h3,h4,h5⟩
    | ret =>
      obtain ⟨s,hI,hH⟩:=hq3
      obtain ⟨v,w',h1,v1,G',m',h2,h3,h4,h5,h6⟩:=fin 1 2 s rfl (by omega) hH
      exact ⟨v,w',h1,v1,_,G',m',h2,.inr ⟨rfl,1,s,by omega,hI,h6⟩,h3,h4,h5⟩
    | exit k =>
      obtain ⟨s,hI,hH⟩:=hq3
      obtain ⟨v,w',h1,v1,G',m',h2,h3,h4,h5,h6⟩:=fin (k+2) 2 s rfl (by omega) hH
      exact ⟨v,w',h1,v1,_,G',m',h2,.inr ⟨rfl,k+2,s,by omega,hI,h6⟩,h3,h4,h5⟩
    | goto l=>exact hq3.elim
    | panic c=>exact hq3.elim
    | outgrown=>exact hq3.elim
  | exit id=>exact hq.elim
  | ret=>exact hq.elim
  | goto l=>exact hq.elim
  | panic c=>exact hq.elim
  | outgrown=>exact hq.elim
def XBH (P:Program) (gf:FuncId) (cap:List PV) (C C':List (Nat × Blk)) (xs:List (List PV)) (cut:Prop):Prop :=
  ∀ (lid:Nat) (S:Type) (I:Nat→S→Prop) (X:S→Prop) (L:S→List (Nat × Blk)),(cut→∀ s,¬ I xs.length s) →
    (∀ i s G K args,xs[i]?=some args→I i s→Has G (L s++K)→YC P lid args G (fun p G'=>∃ s',Has G' (L s'++K)∧(p=.v (.bool true)∧I (i+1) s'∨p=.v (.bool false)∧X s'))) →
    ∀ s G K,I 0 s→Has G (L s++(C++K))→AC P gf (.yld lid::cap) G (fun _ G'=>∃ s',Has G' (L s'++(C'++K))∧(I xs.length s'∨X s'))
theorem R.keepNew {m:Mp} {H:Xh} {w:World} (h:R m H w) (o:Obj):R { m with keep:=fun k=>m.keep k∨k=w.heap.size } H (w.alloc o)∧Le m w { m with keep:=fun k=>m.keep k∨k=w.heap.size } (w.alloc o):=by
  obtain ⟨h1,h2⟩:=h.alloc_any o
  have hle:Le m w { m with keep:=fun k=>m.keep k∨k=w.heap.size } (w.alloc o):=⟨h2.blk,h2.ro,fun b hb=>.inl hb,h2.same,h2.size,h2.os,h2.tape,h2.output,h2.fresh,rfl,fun _ _=>rfl⟩
  have rep:∀ q v,Rep m (w.alloc o) q v→Rep { m with keep:=fun k=>m.keep k∨k=w.heap.size } (w.alloc o) q v:=fun q v r =>
    Rep.mono' (m:=m) (m':={ m with keep:=fun k=>m.keep k∨k=w.heap.size }) (w:=w.alloc o) (w':=w.alloc o) (fun _ _ h=>h) (fun _ h=>h) (fun _ _ _=>rfl) r
  refine ⟨⟨fun b hb=>.inl (h1.rk b hb),fun b hb=>?_,h1.dom,fun id B b d lim hi hm=>?_,h1.inj,h1.top⟩,hle⟩
  · rcases hb with hb | rfl
    · exact h1.kl b hb
    · simp
  · obtain ⟨g0,⟨cur,g1,g2,g3,g4⟩,g5,g6⟩:=h1.blk id B b d lim hi hm
    refine ⟨g0,⟨cur,g1,g2,g3,fun j q hj=>let ⟨u,u1,u2,u3⟩:=g4 j q hj;⟨u,u1,rep _ _ u2,u3⟩⟩,fun ho hk=>?_,g6⟩
    rcases hk with hk | rfl
    · exact g5 ho hk
    · have:=h.lt hi hm;omega
theorem XjW {P:Program} {n:Nat} {Q:QA} {E:Env} {H:Xh} {g:Operand} {ps:Array Tmp} {assign body:Code} {gf:FuncId} {cap:List PV} {C C' K:List (Nat × Blk)} {xs:List (List PV)} {cut:Prop} {S:Type} {I:Nat→S→Prop} {X:Nat→S→Prop} {L:S→List (Nat × Blk)}
    (hg:E.ev g=some (.fn (.func gf) cap)) (hseq:XBH P gf cap C C' xs cut) (hcut:cut→∀ s,¬ I xs.length s) (hsz:∀ args ∈ xs,args.length=ps.size) (hps:∀ t ∈ ps.toList,t < n) (s0:S) (h0:I 0 s0) (hH:Has H (L s0++(C++K)))
    (round:∀ i args s G K',xs[i]?=some args→I i s→Has G (L s++K')→wpA P n assign (Xe0 (wpA P n body (Xpk K' L (I (i+1)) X)) (fun _ _ _=>False)) (Xdg ps.toList args E) G)
    (done:∀ s G,I xs.length s→Has G (L s++(C'++K))→Q .normal E G)
    (stop:∀ k s G,X k s→Has G (L s++(C'++K))→(k=1→Q .ret E G)∧∀ j,k=j+2→Q (.exit j) E G):wpA P n (.rangeFunc g ps assign body) Q E H:=by
  rintro rd m0 w0 a w ⟨hz,hrd,m,hl,hR,hF⟩
  have hgr:=hF.ev hg
  obtain ⟨vs,hgv,hvs⟩:∃ vs,a.eval g=.func (.func gf) #[] vs∧XeK m w cap vs:=by
    generalize a.eval g=v at hgr
    cases hgr with
    | fn vs hl hh=>exact ⟨vs,rfl,hl,hh⟩
  refine wpIn_rangeFunc fun fn _=>?_
  rw [Xho]
  have key:∀ (m1:Mp) (w1:World) (mark:List Deferred) (D:Nat),Le m w m1 w1→R m1 H w1→LeD m0 w0 m1 w1 (mark++a.defers) →
      (Instr.enterLoop fn a.tmps ps assign body rd).run P w=.ok (w1.heap.size,mark) (w1.alloc (.loop { state:=.ready,pending:=none,fn,tmps:=a.tmps,params:=ps,assign,body,defers:=D })) →
      ∃ (l:Nat) (mark:List Deferred) (w₁:World) (d:Deferred) (w₁':World) (f:FuncId) (args:Array Value) (w₂:World),
        (Instr.enterLoop fn a.tmps ps assign body rd).run P w=.ok (l,mark) w₁∧(resolve a.eval (rangeCall g l) 0).run P w₁=.ok d w₁'∧(∀ f',Target.leads P w₁' d.target d.args=some f'→(fen rd).fn f') ∧
        (invoke d.target d.args).run P w₁'=.ok (.enter f args) w₂∧((fen rd).depth.isSome=true→1≤0)∧CallsIn (fen rd) (0 - 1) P f args w₂ (rangePost (fen rd) 0 P l (Qr rd m0 w0 n Q) { a with defers:=mark++a.defers }):=fun m1 w1 mark D hle1 hR1 hLD hen=>by
    have hT1:Xtz m1 w1 E a.tmps:=fun t q hq=>(hF t q hq).mono hR.rk hle1
    obtain ⟨hR2,hle2⟩:=hR1.newObj (Xig fn ps assign body n E 0 0) (.loop { state:=.ready,pending:=none,fn,tmps:=a.tmps,params:=ps,assign,body,defers:=D }) 4
      #[.func (.func 3) #[] ((Value.int .i64 (0:Nat)::.int .i64 (0:Nat)::(E.map (·.1)).map fun t=>a.tmps.getD t undef).toArray)]
      ⟨fn,ps,assign,body,n,E.map (·.1),a.tmps,D,0,0,by omega,rfl,rfl,hz,rfl⟩ (by simp [Xig]) rfl (fun j c hj=>by
        cases j with
        | zero =>
          have hj:_=c:=Option.some.inj hj
          subst hj
          exact ⟨_,rfl,XlC 0 0 hT1,rfl⟩
        | succ j=>simp [Xig] at hj)
    have hG2:=hH.new (Xig fn ps assign body n E 0 0)
    generalize hm2:({ m1 with blk:=fun i=>if i=H.length then some (w1.heap.size,4,_) else m1.blk i }:Mp)=m2 at hR2 hle2
    have hlid:m2.blk H.length=some (w1.heap.size,4,1):=by rw [← hm2];simp
    generalize hW2:w1.alloc (.loop { state:=.ready,pending:=none,fn,tmps:=a.tmps,params:=ps,assign,body,defers:=D })=W2 at hen hR2 hle2
    have hac:=hseq H.length (S × Nat) (fun i s=>s.2=0∧I i s.1) (fun s=>1≤s.2∧X s.2 s.1) (fun s=>(H.length,Xig fn ps assign body n E (if s.2=0 then 0 else 2) s.2)::L s.1)
      (fun hc s hI=>hcut hc s.1 hI.2)
      (fun i s G K' args hx hI hG=>by
        obtain ⟨s,k⟩:=s
        obtain ⟨hk,hI⟩:=hI
        dsimp only at hk hI hG
        subst hk
        refine (Xq7 (s0:=s) (K:=K') (L:=L) (I:=I (i+1)) (X:=X) (hsz args (List.mem_of_getElem? hx)) hps (by simpa using hG) (fun G hG=>round i args s G K' hx hI hG)).mono ?_
        rintro p G' (⟨rfl,s',h1,h2⟩ | ⟨rfl,k,s',h1,h2,h3⟩)
        · exact ⟨(s',0),by simpa using h2,.inl ⟨rfl,rfl,h1⟩⟩
        · have hk:¬ k=0:=by omega
          exact ⟨(s',k),by simpa [hk] using h3,.inr ⟨rfl,h1,h2⟩⟩)
      (s0,0) (H++[some (Xig fn ps assign body n E 0 0)]) K ⟨rfl,h0⟩ (by simpa using hG2)
    obtain ⟨⟨fn',hf1,hf2,hf3⟩,hcall⟩:=hac
    have h2:¬ fn'.name= "runtime.NumGoroutine":=by simpa using hf2
    have h3:¬ fn'.body=none:=fun e=>by rw [e] at hf3;simp at hf3
    have eg:∀ (args:Array Value) (w:World),(callFunc gf args).run P w=.ok (.enter gf args) w:=fun args w=>by simp [callFunc,hf1,h2,h3]
    refine ⟨w1.heap.size,mark,W2,{ target:=.fn (.func gf) vs,args:=#[.func (.yield w1.heap.size) #[] #[]] },W2,gf,#[.func (.yield w1.heap.size) #[] #[]]++vs,W2,hen,?_,fun f' _=>Xcm rd f',?_,XcT rd,?_⟩
    · simp only [resolve,hgv]
      simp [Deferred.ofValue,Act.eval]
    · simp [invoke,eg]
    · refine Xen ((hcall m2 W2 _ hR2 ?_).mono ?_)
      · have hone:XeK m2 W2 [.yld H.length] #[.func (.yield w1.heap.size) #[] #[]] :=
          ⟨rfl,fun j c hj=>by
            cases j with
            | zero=>simp at hj;subst hj;exact .yld hlid
            | succ j=>simp at hj⟩
        have hcap:XeK m2 W2 cap vs:=⟨hvs.1,fun j c hj=>((hvs.2 j c hj).mono hR.rk hle1).mono hR1.rk hle2⟩
        exact hone.append hcap
      · rintro en w3 ⟨v,q,G3,m3,rfl,⟨⟨s,k⟩,hG3,hcase⟩,_,hR3,hle3⟩
        dsimp only at hG3 hcase
        have hm3:m3.blk H.length=some (w1.heap.size,4,1):=hle3.blk _ _ hlid
        have hB3:=hG3.get 0 H.length _ rfl
        obtain ⟨tmps3,D3,hh3,hsz3,hT3,_,_,_⟩:=Xpq hR3 hB3 hm3
        have hnb:XjR (if k=0 then 0 else 2)≠.busy:=by
          by_cases e:k=0
          · rw [if_pos e];simp [XjR]
          · rw [if_neg e];simp [XjR]
        have hel:=run_endLoop (P:=P) hh3 hnb
        simp only at hel
        obtain ⟨hR4,hle4⟩:=XrE hR3 hB3 hm3 3 k (by omega) (tmps:=tmps3) (D:=D3) hsz3 hT3
        have hG4:=hG3.set (k:=0) rfl (Xig fn ps assign body n E 3 k)
        have hleA:Le m1 w1 m3 _:=(hle2.trans hle3).trans hle4
        have hat:∀ (G:Xh),R m3 G (w3.putObj w1.heap.size (.loop { state:=XjR 3,pending:=XbU k,fn,tmps:=tmps3,params:=ps,assign,body,defers:=D3 })) →
            At rd m0 w0 n E G { a with defers:=mark++a.defers } (w3.putObj w1.heap.size (.loop { state:=XjR 3,pending:=XbU k,fn,tmps:=tmps3,params:=ps,assign,body,defers:=D3 })):=fun G hRG =>
          ⟨hz,hrd,m3,hLD.trans hleA,hRG,fun t q hq=>(hT1 t q hq).mono hR1.rk hleA⟩
        refine ⟨XbU k,_,hel,?_⟩
        have hGt:Has (G3.set H.length (some (Xig fn ps assign body n E 3 k))) (L s++(C'++K)):=by
          have:=Has.tail hG4
          simpa using this
        rcases hcase with ⟨hk,hI⟩ | ⟨hk,hX⟩
        · subst hk
          exact ⟨E,_,done s _ hI hGt,hat _ hR4⟩
        · obtain ⟨q1,q2⟩:=stop k s _ hX hGt
          match k,hk with
          | 1,_=>exact wpIn_ret ⟨E,_,q1 rfl,hat _ hR4⟩
          | j+2,_=>exact wpIn_exit ⟨E,_,q2 j rfl,hat _ hR4⟩
  cases rd with
  | none =>
    obtain ⟨hR1,hle1⟩:=hR.keepNew (.deferred (some []))
    obtain ⟨hl0,bs,b1,b2,b3⟩:=hl
    refine key _ (w.alloc (.deferred (some []))) [{ target:=.collected w.heap.size,args:=#[] }] w.heap.size hle1 hR1 ⟨hl0.trans hle1,w.heap.size::bs,?_,by rw [b2];rfl,fun c hc=>?_⟩ ?_
    · rw [List.nodup_cons]
      refine ⟨fun hmem=>?_,b1⟩
      obtain ⟨_,_,h3⟩:=b3 _ hmem
      have:=(Array.getElem?_eq_some_iff.1 h3).1
      omega
    · rcases List.mem_cons.1 hc with rfl | hc
      · exact ⟨.inr rfl,fun hk=>by have:=hR.kl _ (hl0.keep _ hk);omega,World.alloc_heap_new w _⟩
      · obtain ⟨c1,c2,c3⟩:=b3 c hc
        exact ⟨.inl c1,c2,(hle1.same c c1).trans c3⟩
    · have:=run_enterLoop_outer (P:=P) (w:=w) fn a.tmps ps assign body
      rw [this]
      simp
  | some l0 =>
    obtain ⟨hk0,r0,hr0⟩:=hrd l0 rfl
    have hh0:=(hl.le.same l0 hk0).trans hr0
    exact key m w [] r0.defers (Le.refl m w) hR hl (run_enterLoop_inner hh0 _ _ _ _ _)
end Go.Th
namespace Go.Th
open Go.RowKit
section
variable {P:Program} {n:Nat} {Q:QA} {E:Env} {H:Xh}
theorem At.freezeP {rd:Option Nat} {m0:Mp} {w0:World} {a:Act} {w:World} {t id off:Nat} {C:Blk} (h:At rd m0 w0 n E H a w) (ht:E.get t=some (.ptr id off)) (hB:H[id]?=some (some C)):At rd m0 w0 n ((t,.ept C.cells off)::E) (H.set id none) a w:=by
  obtain ⟨h1,h2,m,h3,h4,h5⟩:=h
  have hr:=h5 t _ ht
  generalize hv:a.tmps.getD t undef=v at hr
  cases hr with
  | @ptr _ _ b lim hm =>
    obtain ⟨_,⟨cur,c1,c2,c3,c4⟩,hk1,hk2⟩:=h4.blk id C b 0 lim hB hm
    have hle:Le m w { blk:=m.blk,ro:=fun k=>m.ro k∨k=b,keep:=fun k=>m.keep k∨k=b,top:=m.top } w :=
      ⟨fun _ _ h=>h,fun _ h=>.inl h,fun _ h=>.inl h,fun _ _=>rfl,Nat.le_refl _,rfl,rfl,rfl,fun k hk=>by
        rcases hk with hk | rfl
        · exact .inl hk
        · cases ho:C.own with
          | true=>exact .inr (hk1 ho)
          | false=>exact .inl (hk2 ho),rfl,fun _ _=>rfl⟩
    have hR:R { blk:=m.blk,ro:=fun k=>m.ro k∨k=b,keep:=fun k=>m.keep k∨k=b,top:=m.top } (H.set id none) w:=by
      refine ⟨fun k hk=>?_,fun k hk=>?_,fun i x hx=>by simpa using h4.dom i x hx,fun i C' bi di li hi hmi=>?_,fun i j C' D bi di li bj dj lj hne hi hj=>?_,by simpa using h4.top⟩
      · rcases hk with hk | hk
        · exact .inl (h4.rk k hk)
        · exact .inr hk
      · rcases hk with hk | rfl
        · exact h4.kl k hk
        · exact h4.lt hB hm
      · rcases XH hi with ⟨_,e⟩ | ⟨n1,e⟩
        · cases e
        · obtain ⟨g0,⟨cur',g1,g2,g3,g4⟩,g5,g6⟩:=h4.blk i C' bi di li e hmi
          refine ⟨g0,⟨cur',g1,g2,g3,fun j c hj=>let ⟨u,u1,u2,u3⟩:=g4 j c hj;⟨u,u1,u2.mono h4.rk hle,u3⟩⟩,fun hoC hk=>?_,fun hoC=>.inl (g6 hoC)⟩
          rcases hk with hk | rfl
          · exact g5 hoC hk
          · cases ho:C.own with
            | true=>exact h4.inj i id C' C _ _ _ _ _ _ n1 e hB hoC ho hmi hm rfl
            | false=>exact g5 hoC (h4.rk _ (hk2 ho))
      · rcases XH hi with ⟨_,e⟩ | ⟨n1,ei⟩
        · cases e
        · rcases XH hj with ⟨_,e⟩ | ⟨n2,ej⟩
          · cases e
          · exact h4.inj i j C' D bi di li bj dj lj hne ei ej
    refine ⟨h1,h2,_,h3.trans hle,hR,fun t' p ht'=>?_⟩
    rw [Env.get_cons] at ht'
    by_cases e:t=t'
    · subst e
      rw [if_pos rfl] at ht';cases ht'
      rw [hv]
      refine .ept (b:=b) (o:=0) (fun j=>cur.getD (0+j) undef) (.inr rfl) (fun j q hj=>?_) (fun j q hj=>?_)
      all_goals
        obtain ⟨u,u1,u2,_⟩:=c4 _ _ hj
        have hg:cur.getD (0+j) undef=u:=by rw [Array.getD_eq_getD_getElem?,u1];rfl
      · rw [cell_of_row w b _ cur C.elem.tid (0,0) c1,u1,hg]
      · simp only [hg]
        exact u2.mono h4.rk hle
    · rw [if_neg e] at ht'
      exact (h5 t' p ht').mono h4.rk hle
theorem Xlu {c:Code} (t:Nat) {id off:Nat} {C:Blk} (ht:E.get t=some (.ptr id off)) (hB:H[id]?=some (some C)) (h:wpA P n c Q ((t,.ept C.cells off)::E) (H.set id none)):wpA P n c Q E H :=
  fun rd m0 w0 a w hat=>h rd m0 w0 a w (At.freezeP hat ht hB)
theorem XD {L:List (Nat × Blk)} {c:Code} (t:Nat) {id:Nat} {C:Blk} (hG:Has H ((id,C)::L)) (ht:E.get t=some (.ptr id 0)) (h:∀ G,Has G L→wpA P n c Q ((t,.ept C.cells 0)::E) G):wpA P n c Q E H :=
  Xlu t ht (hG.get 0 id C rfl) (h _ hG.forget)
end
section
variable {P:Program} {n:Nat} {l:List Oper} {Hs:Nat→Xh} {i:Nat} {o:Oper} {os:List Oper} {acc:List PV} {E:Env} {K:Env→Prop} {d:Nat} {p:PV}
theorem XAZ {H:Xh} (c:Nat) (h1:Xaz l i=c) (h2:XaO l i=c) (hH:Hs c=H) (hg:o.guard=none) (hl:Xs o=false) (hd:o.dst=some d) (hn:d < n) (h:OpK P o (XY o E) H p H) (k:DY P n l Hs (i+1) os (p::acc) ((d,p)::E) K):DY P n l Hs i (o::os) acc E K:=by
  refine ⟨p,⟨fun d' hd'=>by rw [hd] at hd';cases hd';exact hn,?_⟩,by rw [hd];exact k⟩
  rw [hg,hl]
  intro c' hc1 hc2
  have e:c'=c:=by omega
  rw [e,hH]
  exact h
end
section
variable {P:Program} {E:Env} {H:Xh} {o:Oper} {t ty:TypeId} {x y:Operand}
theorem XsO [hu:HasU P t .string] {b:ByteArray} (ho:o.op=.call { callee:=.builtin .len,args:=#[x],argTypes:=#[t] }) (hx:E.ev x=some (.v (.string b))):OpV P o E H (.v (.int .i64 (b.size:Nat))):=fun m w ρ _ hρ=>by
  have h:=XA (hρ x _ hx)
  refine ⟨.int .i64 b.size,?_,.v _ rfl⟩
  simp [execOp,ho,resolve,invoke,builtin,h,Builtin.len_,run_underlying hu.u,goInt]
def Xd (b:ByteArray) (i:Nat):Nat:=((b[i]?).getD 0).toNat
theorem Xav (b:ByteArray) (i:Nat):Xd b i < 256:=((b[i]?).getD 0).toNat_lt
theorem XeL [hu:HasU P t .string] {b:ByteArray} {k:IntKind} {i:Int} (ho:o.op=.index t x y) (hx:E.ev x=some (.v (.string b))) (hy:E.ev y=some (.v (.int k i))) (h:0≤i∧i < b.size):OpV P o E H (.v (.int .u8 (Xd b i.toNat:Nat))):=fun m w ρ _ hρ=>by
  have e1:=XA (hρ x _ hx)
  have e2:=XA (hρ y _ hy)
  have hlt:i.toNat < b.size:=by omega
  refine ⟨.int .u8 (Xd b i.toNat:Nat),?_,.v _ rfl⟩
  have hb:b[i.toNat]?=some b[i.toNat]:=by simp [hlt]
  simp [execOp,ho,e1,e2,Instr.index,asIntOf,run_underlying hu.u,h.1,hb,Xd]
theorem XbN [hu:HasU P t .string] {b:ByteArray} {lo hi':Option Operand} {l h:Nat} {kl kh:IntKind} (ho:o.op=.slice t x lo hi' none) (hx:E.ev x=some (.v (.string b)))
    (hlo:match lo with | none=>l=0 | some y=>E.ev y=some (.v (.int kl (l:Int)))) (hhi:match hi' with | none=>h=b.size | some y=>E.ev y=some (.v (.int kh (h:Int)))) (hlh:l≤h∧h≤b.size):OpV P o E H (.v (.string (b.extract l h))):=fun m w ρ hR hρ=>by
  have ex:=XA (hρ x _ hx)
  have hb:(Instr.sliceBounds false b.size b.size (lo.map ρ) (hi'.map ρ) none).run P w=.ok (l,h,b.size) w:=by
    unfold Instr.sliceBounds
    cases lo with
    | none =>
      simp only at hlo
      subst hlo
      cases hi' with
      | none=>simp only at hhi;subst hhi;simp
      | some y =>
        simp only at hhi
        have:=XA (hρ y _ hhi)
        simp [this,XR kh h b.size _ (by omega)]
    | some y =>
      simp only at hlo
      have h1:=XA (hρ y _ hlo)
      cases hi' with
      | none=>simp only at hhi;subst hhi;simp [h1,XR kl l b.size _ (by omega)]
      | some y' =>
        simp only at hhi
        have h2:=XA (hρ y' _ hhi)
        simp [h1,h2,XR kl l h _ (by omega),XR kh h b.size _ (by omega)]
  refine ⟨.string (b.extract l h),?_,.v _ rfl⟩
  simp [execOp,ho,ex,Instr.sliceAt,Instr.slice,run_underlying hu.u,hb]
def Xff (a b:ByteArray):Bool:=a.toList == b.toList
theorem Xa7 {a b:ByteArray} (ho:o.op=.binOp .eql t x y ty) (hx:E.ev x=some (.v (.string a))) (hy:E.ev y=some (.v (.string b))):OpV P o E H (.v (.bool (Xff a b))):=Xab ho hx hy rfl rfl (fun _=>rfl) rfl
theorem Xbz {a b:ByteArray} (ho:o.op=.binOp .neq t x y ty) (hx:E.ev x=some (.v (.string a))) (hy:E.ev y=some (.v (.string b))):OpV P o E H (.v (.bool (!Xff a b))):=Xab ho hx hy rfl rfl (fun _=>rfl) rfl
def Xgn (k:IntKind) (a b:Int):Int:=k.wrap ((BitVec.ofInt k.bits a &&& BitVec.ofInt k.bits b).toNat:Nat)
def orK (k:IntKind) (a b:Int):Int:=k.wrap ((BitVec.ofInt k.bits a ||| BitVec.ofInt k.bits b).toNat:Nat)
def Xs7 (k:IntKind) (a b:Int):Int:=k.wrap (a * 2 ^ (min b.toNat k.bits))
def XgU (k:IntKind) (a b:Int):Int:=a.fdiv (2 ^ (min b.toNat k.bits))
theorem XfF {k:IntKind} {a b:Int} (ho:o.op=.binOp .and t x y ty) (hx:E.ev x=some (.v (.int k a))) (hy:E.ev y=some (.v (.int k b))):OpV P o E H (.v (.int k (Xgn k a b))):=Xab ho hx hy rfl rfl (fun w=>by
  simp [eqGuard_at_int,binOp_and,Op.intBits,Xgn]) rfl
theorem Xfe {k:IntKind} {a b:Int} (ho:o.op=.binOp .or t x y ty) (hx:E.ev x=some (.v (.int k a))) (hy:E.ev y=some (.v (.int k b))):OpV P o E H (.v (.int k (orK k a b))):=Xab ho hx hy rfl rfl (fun w=>by
  simp [eqGuard_at_int,binOp_or,Op.intBits,orK]) rfl
theorem XwV {k j:IntKind} {a b:Int} (ho:o.op=.binOp .shl t x y ty) (hx:E.ev x=some (.v (.int k a))) (hy:E.ev y=some (.v (.int j b))) (hb:0≤b):OpV P o E H (.v (.int k (Xs7 k a b))):=Xab ho hx hy rfl rfl (fun w=>by
  have:¬ b < 0:=by omega
  simp [eqGuard,binOp_shl,Op.shift,this,Xs7]) rfl
theorem Xgc {k j:IntKind} {a b:Int} (ho:o.op=.binOp .shr t x y ty) (hx:E.ev x=some (.v (.int k a))) (hy:E.ev y=some (.v (.int j b))) (hb:0≤b):OpV P o E H (.v (.int k (XgU k a b))):=Xab ho hx hy rfl rfl (fun w=>by
  have:¬ b < 0:=by omega
  simp [eqGuard,binOp_shr,Op.shift,this,XgU]) rfl
end
end Go.Th
namespace Go.Th
open Go.RowKit
section
variable {P:Program} {n:Nat} {fx:List Nat × List Nat} {gid:Nat→Nat} {l:List Oper} {acc:List PV} {Hs:Nat→Xh} {i:Nat} {o:Oper} {os:List Oper} {p:PV} {E:Env} {d:Nat} {K:Env→Prop}
theorem Xxc {H:Xh} (c:Nat) (hf:fx.1.contains i=false) (h1:loF fx l i=c) (h2:hiF fx l i=c) (hH:Hs c=H) (hg:o.guard=none) (hl:(Xs o || fx.2.contains i)=false) (hd:o.dst=some d) (hn:d < n) (h:OpV P o (XY o E) H p)
    (k:DYF P n fx gid l Hs (i+1) os (p::acc) ((d,p)::E) K):DYF P n fx gid l Hs i (o::os) acc E K :=
  F_r c c hf h1 h2 hg hl hd hn (fun k a b=>by
    have e:k=c:=by omega
    rw [e,hH];exact h) k
theorem F_r2 {H H2:Xh} (c:Nat) (hf:fx.1.contains i=false) (h1:loF fx l i=c) (h2:hiF fx l i=c+1) (hH:Hs c=H) (hH2:Hs (c+1)=H2) (hg:o.guard=none) (hl:(Xs o || fx.2.contains i)=false) (hd:o.dst=some d) (hn:d < n) (h:OpV P o (XY o E) H p) (h':OpV P o (XY o E) H2 p)
    (k:DYF P n fx gid l Hs (i+1) os (p::acc) ((d,p)::E) K):DYF P n fx gid l Hs i (o::os) acc E K :=
  F_r c (c+1) hf h1 h2 hg hl hd hn (fun k a b=>by
    rcases (by omega:k=c∨k=c+1) with e | e
    · rw [e,hH];exact h
    · rw [e,hH2];exact h') k
theorem F_f1 {g:Nat} {B:Blk} {H:Xh} (c:Nat) (hf:fx.1.contains i=true) (hgi:gid i=g) (h1:loF fx l i=c) (h2:hiF fx l i=c) (hH:Hs c=H) (hg:o.guard=none) (hd:o.dst=some d) (hn:d < n) (h:OpF P o (XY o E) g B p) (hB:H[g]?=some (some B))
    (k:DYF P n fx gid l Hs (i+1) os (p::acc) ((d,p)::E) K):DYF P n fx gid l Hs i (o::os) acc E K :=
  F_f c c hf hgi h1 h2 hg hd hn h (fun k a b=>by
    have e:k=c:=by omega
    rw [e,hH];exact hB) k
end
end Go.Th
namespace Go.Th
open Go.RowKit
mutual
def XnB:PV→Nat
  | .v _=>0
  | .ptr id _=>id+1
  | .ept cells _=>XsG cells
  | .sl id _ _ _=>id+1
  | .tr cells _ _=>XsG cells
  | .fn _ cap=>XsG cap
  | .agg cells=>XsG cells
  | .tup cells=>XsG cells
  | .mp id=>id+1
  | .it id=>id+1
  | .yld id=>id+1
def XsG:List PV→Nat
  | []=>0
  | c::l=>max (XnB c) (XsG l)
end
theorem XdR {c:PV}:∀ {l:List PV},c ∈ l→XnB c≤XsG l
  | [],h=>by simp at h
  | d::l,h=>by
    rw [XsG]
    rcases List.mem_cons.1 h with rfl | h
    · omega
    · have:=XdR h;omega
def bndB:Option Blk→Nat
  | some B=>XsG B.cells
  | none=>0
def Xxa:Xh→Nat
  | []=>0
  | x::H=>max (bndB x) (Xxa H)
theorem XqM {B:Blk} {c:PV} (hc:c ∈ B.cells):∀ {H:Xh} {id:Nat},H[id]?=some (some B)→XnB c≤Xxa H
  | [],id,h=>by simp at h
  | x::H,0,h=>by
    simp at h;subst h
    have:=XdR hc
    rw [Xxa,bndB];omega
  | x::H,id+1,h=>by
    have:=XqM hc (H:=H) (id:=id) (by simpa using h)
    rw [Xxa];omega
theorem Xux {m m':Mp} {w:World} {n:Nat} (hb:∀ id,id < n→m'.blk id=m.blk id) (hro:∀ b,m.ro b→m'.ro b) {p:PV} {v:Value} (r:Rep m w p v):XnB p≤n→Rep m' w p v:=by
  induction r with
  | v x hx=>exact fun _=>.v x hx
  | ptr h=>exact fun hn=>.ptr (by rw [hb _ (by rw [XnB] at hn;omega)];exact h)
  | mp h=>exact fun hn=>.mp (by rw [hb _ (by rw [XnB] at hn;omega)];exact h)
  | it h=>exact fun hn=>.it (by rw [hb _ (by rw [XnB] at hn;omega)];exact h)
  | yld h=>exact fun hn=>.yld (by rw [hb _ (by rw [XnB] at hn;omega)];exact h)
  | ept f hr hc h ih=>exact fun hn=>.ept f (hro _ hr) hc fun j c hj=>ih j c hj (by rw [XnB] at hn;have:=XdR (List.mem_of_getElem? hj);omega)
  | sl h h1 h2 h3=>exact fun hn=>.sl (by rw [hb _ (by rw [XnB] at hn;omega)];exact h) h1 h2 h3
  | sl0 a=>exact fun _=>.sl0 a
  | tr f hr hl h1 h2 hc h ih=>exact fun hn=>.tr f (hro _ hr) hl h1 h2 hc fun j c hj=>ih j c hj (by rw [XnB] at hn;have:=XdR (List.mem_of_getElem? hj);omega)
  | tr0 a h2=>exact fun _=>.tr0 a h2
  | trn=>exact fun _=>.trn
  | fn vs hl h ih=>exact fun hn=>.fn vs hl fun j c hj=>ih j c hj (by rw [XnB] at hn;have:=XdR (List.mem_of_getElem? hj);omega)
  | agg vs hl h ih=>exact fun hn=>.agg vs hl fun j c hj=>ih j c hj (by rw [XnB] at hn;have:=XdR (List.mem_of_getElem? hj);omega)
  | tup vs hl h ih=>exact fun hn=>.tup vs hl fun j c hj=>ih j c hj (by rw [XnB] at hn;have:=XdR (List.mem_of_getElem? hj);omega)
theorem XlZ {H:Xh} {t id:Nat} {B:Blk} (h:(H++List.replicate t none)[id]?=some (some B)):H[id]?=some (some B):=by
  rcases Nat.lt_or_ge id H.length with hlt | hge
  · rwa [List.getElem?_append_left hlt] at h
  · rw [List.getElem?_append_right hge,List.getElem?_replicate] at h
    split at h <;> simp at h
theorem AC.exact {P:Program} {f:FuncId} {args:List PV} {H H':Xh} {Q:PV→Prop} (hlen:H'.length=H.length)
    (h:∀ t,AC P f args (H++List.replicate t none) (fun p G=>Q p∧(∃ x,p=.v x)∧∀ (id:Nat) (B:Blk),H'[id]?=some (some B)→G[id]?=some (some B))):AC P f args H (fun p G=>Q p∧G=H'):=by
  refine ⟨(h 0).1,fun m w vals hR hv=>?_⟩
  obtain ⟨N,hN1,hN2⟩:∃ N,H.length≤N∧Xxa H'≤N:=⟨max H.length (Xxa H'),by omega,by omega⟩
  have hl:(H++List.replicate (N - H.length) none).length=N:=by simp;omega
  have rp:∀ {p v},Rep m w p v→Rep { m with top:=N } w p v:=fun r=>Rep.mono' (m:=m) (m':={ m with top:=N }) (fun _ _ h=>h) (fun _ h=>h) (fun _ _ _=>rfl) r
  have hR1:R { m with top:=N } (H++List.replicate (N - H.length) none) w:=by
    refine ⟨hR.rk,hR.kl,fun id x hx=>?_,fun id B b d lim hi hm=>?_,fun i j B C bi di li bj dj lj hne hi hj=>hR.inj i j B C bi di li bj dj lj hne (XlZ hi) (XlZ hj),by rw [hl];exact Nat.le_refl _⟩
    · have:=hR.dom id x hx
      rw [hl];omega
    · obtain ⟨g0,⟨cur,g1,g2,g3,g4⟩,g5⟩:=hR.blk id B b d lim (XlZ hi) hm
      exact ⟨g0,⟨cur,g1,g2,g3,fun j c hj=>let ⟨u,u1,u2,u3⟩:=g4 j c hj;⟨u,u1,rp u2,u3⟩⟩,g5⟩
  have hv1:XeK { m with top:=N } w args vals:=⟨hv.1,fun j c hj=>rp (hv.2 j c hj)⟩
  refine ((h (N - H.length)).2 { m with top:=N } w vals hR1 hv1).mono ?_
  rintro e w' ⟨v,p,G,m',rfl,⟨hq,⟨x,rfl⟩,hG⟩,hr,hR',hle⟩
  have hdom:∀ id x,id < N→m'.blk id=some x→id < H.length:=fun id x hid hx=>by
    have e:=hle.old id hid
    rw [hx] at e
    exact hR.dom id x e.symm
  have hbk:∀ id x,(if id < N then m'.blk id else none)=some x→id < N∧m'.blk id=some x:=fun id x hx=>by
    split at hx
    · exact ⟨by assumption,hx⟩
    · cases hx
  refine ⟨v,.v x,H',{ m' with blk:=fun id=>if id < N then m'.blk id else none,top:=m.top },rfl,⟨hq,rfl⟩,by cases hr with | v _ hna=>exact .v _ hna,?_,?_⟩
  · refine ⟨hR'.rk,hR'.kl,fun id x hx=>?_,fun id B b d lim hi hm=>?_,fun i j B C bi di li bj dj lj hne hi hj ho1 ho2 h1 h2=>?_,by rw [hlen];exact hR.top⟩
    · obtain ⟨h1,h2⟩:=hbk id x hx
      rw [hlen];exact hdom id x h1 h2
    · obtain ⟨h1,h2⟩:=hbk id _ hm
      obtain ⟨g0,⟨cur,g1,g2,g3,g4⟩,g5⟩:=hR'.blk id B b d lim (hG id B hi) h2
      refine ⟨g0,⟨cur,g1,g2,g3,fun j c hj=>?_⟩,g5⟩
      obtain ⟨u,u1,u2,u3⟩:=g4 j c hj
      refine ⟨u,u1,Xux (m:=m') (m':={ m' with blk:=fun id=>if id < N then m'.blk id else none,top:=m.top }) (n:=N) (fun id hid=>by simp [hid]) (fun _ h=>h) u2 ?_,u3⟩
      have:=XqM (List.mem_of_getElem? hj) hi
      omega
    · exact hR'.inj i j B C bi di li bj dj lj hne (hG i B hi) (hG j C hj) ho1 ho2 (hbk i _ h1).2 (hbk j _ h2).2
  · refine ⟨fun id x hx=>?_,hle.ro,hle.keep,hle.same,hle.size,hle.os,hle.tape,hle.output,hle.fresh,rfl,fun id hid=>?_⟩
    · have h1:=hR.dom id x hx
      have h2:id < N:=by omega
      simp only [h2,if_true]
      exact hle.blk id x hx
    · have h1:=hR.top
      have h2:id < N:=by omega
      simp only [h2,if_true]
      exact hle.old id h2
end Go.Th
namespace Go.Th
open Go.RowKit
def OpX (P:Program) (o:Oper) (E:Env) (H:Xh) (p:PV) (Z:Xh→Prop):Prop :=
  ∀ rd m w (a:Act) (K:Act→World→Prop) (Q:Exit→Act→World→Prop),R m H w→(∀ x q,E.ev x=some q→Rep m w q (a.eval x)) →
    (∀ v m' w' H',Le m w m' w'→Z H'→R m' H' w'→Rep m' w' p v→K (a.put o.dst v) w')→o.wpIn (fen rd) 0 P a w K Q
section
variable {P:Program} {n:Nat} {fx:List Nat × List Nat} {gid:Nat→Nat} {mt:Nat} {l:List Oper} {vals:List PV} {Hs:Nat→Xh→Prop} {E0:Env} {m0:Mp} {w0:World} {rd:Option Nat}
end
section
variable {P:Program} {n:Nat} {fx:List Nat × List Nat} {gid:Nat→Nat} {l:List Oper} {acc:List PV} {Hs:Nat→Xh→Prop} {i:Nat} {o:Oper} {os:List Oper} {p:PV} {E:Env} {d:Nat} {K:Env→Prop}
end
end Go.Th
