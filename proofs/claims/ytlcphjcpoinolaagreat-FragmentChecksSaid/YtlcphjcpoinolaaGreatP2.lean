/- Part of the proof: the walk over the program and its laws: ThC ThInst Fl Da Cl Cm Mx Bx Dp By. -/
import Derived.Test.YtlcphjcpoinolaaGreatProg
import Derived.KernelRfl
import Derived.Laws.StructEq
import Derived.Laws.Cover3
import Derived.Lib.Builder
import Derived.Lib.UnsafeStr
import Derived.Laws.Externs
import Derived.Test.YtlcphjcpoinolaaGreatP0
import Derived.Test.YtlcphjcpoinolaaGreatP1
set_option linter.unusedVariables false
namespace Go.Th
open Go.RowKit
theorem Has.forget {H:Xi} {L:List (Nat × Blk)} {id:Nat} {B:Blk} (h:Has H ((id,B)::L)):Has (H.set id none) L :=
  ⟨fun k i C hk=>get_set_ne (h.get (k+1) i C (by simpa using hk)) (h.ne 0 (k+1) (id,B) (i,C) (by omega) rfl (by simpa using hk)),h.tail.ne⟩
theorem XjO {l:List PV} {n:Nat} (h:l.length=n):Xav n (l.drop 0)=some l:=by
  rw [Xao];subst h;simp
inductive ConvL (H:Xi):List PV→List PV→Prop
  | nil:ConvL H [] []
  | cons {c d:PV} {cs ds:List PV} (h:Conv H c d) (k:ConvL H cs ds):ConvL H (c::cs) (d::ds)
theorem ConvL.all {H:Xi} {cs ds:List PV} (h:ConvL H cs ds):ds.length=cs.length∧∀ (j:Nat) (c d:PV),cs[j]?=some c→ds[j]?=some d→Conv H c d:=by
  induction h with
  | nil=>exact ⟨rfl,fun j c d h=>by simp at h⟩
  | cons h k ih =>
    refine ⟨by simp [ih.1],fun j c d hc hd=>?_⟩
    cases j with
    | zero=>simp at hc hd;subst hc;subst hd;exact h
    | succ j=>exact ih.2 j c d (by simpa using hc) (by simpa using hd)
theorem ConvL.agg {H:Xi} {cs ds:List PV} (h:ConvL H cs ds):Conv H (.agg cs) (.agg ds):=.agg h.all.1 h.all.2
theorem Conv.own {H:Xi} {L:List (Nat × Blk)} {k id len sz:Nat} {B:Blk} (hG:Has H L) (hk:L[k]?=some (id,B)) (hl:B.cells.length=len * sz):Conv H (.sl id 0 len sz) (.tr B.cells len sz) :=
  .sl (hG.get k id B hk) (XjO hl) rfl (fun j c d hc hd=>by rw [hc] at hd;cases hd;exact .refl _)
theorem XaV {H:Xi} {d:TypeDesc} {size id off:Nat} {B:Blk} (hB:H[id]?=some (some B)):XdQ d size H (.ptr id off)=XgM d size B.cells off:=by
  simp only [XdQ,Xdt,hB];rfl
end Go.Th
namespace Go.Th
open Go.RowKit
theorem R.freeze {m:Mp} {H:Xi} {w:World} {id off len sz:Nat} {B:Blk} {cs:List PV} {v:Value} (h:R m H w) (hB:H[id]?=some (some B)) (hc:Xav (len * sz) (B.cells.drop off)=some cs) (hv:Rep m w (.sl id off len sz) v) :
    ∃ m',Le m w m' w∧R m' (H.set id none) w∧Rep m' w (.tr cs len sz) v:=by
  have hat:At none m w 1 [(0,.sl id off len sz)] H ⟨#[v],[]⟩ w:=⟨rfl,RdK.none _ _,m,LeD.refl m w,h,fun t p ht=>by
    rw [Env.get_cons] at ht
    by_cases e:0=t
    · subst e;rw [if_pos rfl] at ht;cases ht;exact hv
    · rw [if_neg e] at ht;simp [Env.get] at ht⟩
  obtain ⟨_,_,m',h3,h4,h5⟩:=hat.freeze (t:=0) rfl hB hc
  exact ⟨m',h3.le,h4,h5 0 _ rfl⟩
end Go.Th
namespace Go.Th
open Go.RowKit
def Wk (c c':PV):Prop:=∀ m w v,Rep m w c v→Rep m w c' v
theorem Wk.refl (c:PV):Wk c c:=fun _ _ _ h=>h
theorem Wk.nil (sz:Nat):Wk (.v (.slice none 0 0)) (.tr [] 0 sz):=fun m w v h=>by rw [XJ h];exact .trn
inductive WkL:List PV→List PV→Prop
  | nil:WkL [] []
  | cons {c d:PV} {cs ds:List PV} (h:Wk c d) (k:WkL cs ds):WkL (c::cs) (d::ds)
theorem WkL.all {cs ds:List PV} (h:WkL cs ds):ds.length=cs.length∧∀ (j:Nat) (d:PV),ds[j]?=some d→∃ c,cs[j]?=some c∧Wk c d:=by
  induction h with
  | nil=>exact ⟨rfl,fun j d h=>by simp at h⟩
  | cons h k ih =>
    refine ⟨by simp [ih.1],fun j d hd=>?_⟩
    cases j with
    | zero=>simp at hd;subst hd;exact ⟨_,rfl,h⟩
    | succ j=>exact ih.2 j d (by simpa using hd)
theorem Wk.agg {cs ds:List PV} (h:WkL cs ds):Wk (.agg cs) (.agg ds):=fun m w v hr=>by
  obtain ⟨hl,hc⟩:=h.all
  cases hr with
  | agg vs a b =>
    refine .agg vs (by rw [a,hl]) fun j d hd=>?_
    obtain ⟨c,hc1,hc2⟩:=hc j d hd
    exact hc2 m w _ (b j c hc1)
theorem Xmh {P:Program} {n:Nat} {Q:QA} {E:Env} {H:Xi} {L:List (Nat × Blk)} {pg:Nat} {B:Blk} {cs:List PV} {c:Code} (k:Nat) (hG:Has H L) (hk:L[k]?=some (pg,B)) (hw:WkL B.cells cs)
    (h:∀ G,Has G (L.set k (pg,{ B with cells:=cs }))→wpA P n c Q E G):wpA P n c Q E H:=by
  rintro rd m0 w0 a w ⟨h1,h2,m,h3,h4,h5⟩
  obtain ⟨hl,hc⟩:=hw.all
  have hR:=h4.alt (hG.get k pg B hk) { B with cells:=cs } rfl rfl hl (fun j d hd=>let ⟨c,c1,c2⟩:=hc j d hd;⟨c,c1,fun v hv=>c2 m w v hv⟩)
  exact h _ (hG.set hk _) rd m0 w0 a w ⟨h1,h2,m,h3,hR,h5⟩
theorem Xb3 {p:Prop} [Decidable p] (h:¬ p):(!decide p)=true:=by simp [h]
theorem Xb4 {p:Prop} [Decidable p] (h:p):(!decide p)=false:=by simp [h]
end Go.Th
namespace Go.Th
open Go.RowKit
def DY (P:Program) (n:Nat) (l:List Oper) (Hs:Nat→Xi):Nat→List Oper→List PV→Env→(Env→Prop)→Prop
  | _,[],_,E,K=>K E
  | i,o::os,acc,E,K=>∃ p,((∀ d,o.dst=some d→d < n) ∧
      match o.guard with
      | none=>match Xq o with
        | true=>OpK P o (XK o E) (Hs (Xdw l i)) p (Hs (Xdw l i+1))
        | false=>∀ k,XaF l i≤k→k≤XaR l i→OpK P o (XK o E) (Hs k) p (Hs k)
      | some (j,want)=>∃ b oj,j < i∧acc[i - 1 - j]?=some (.v (.bool b))∧l[j]?=some oj∧oj.dst.isSome=true ∧
          (b=want→∀ k,XaF l i≤k→k≤XaR l i→OpK P o (XK o E) (Hs k) p (Hs k))∧(b≠want→p=.v undef)) ∧
    DY P n l Hs (i+1) os (p::acc) (match o.dst with | some d=>(d,p)::E | none=>E) K
theorem DY.dx {P:Program} {n:Nat} {l:List Oper} {Hs:Nat→Xi} {K:Env→Prop}:∀ (os:List Oper) (i:Nat) (acc:List PV) (E:Env),acc.length=i→DY P n l Hs i os acc E K→DX P n l Hs i os acc.reverse E K
  | [],i,acc,E,_,h=>h
  | o::os,i,acc,E,hl,⟨p,⟨h1,h2⟩,h3⟩=>by
    have h4:=DY.dx os (i+1) (p::acc) _ (by simp [hl]) h3
    rw [List.reverse_cons] at h4
    refine ⟨p,⟨h1,?_⟩,h4⟩
    cases hg:o.guard with
    | none=>rw [hg] at h2;exact h2
    | some jw =>
      rw [hg] at h2
      obtain ⟨b,oj,e0,e1,e2⟩:=h2
      refine ⟨b,oj,?_,e2⟩
      rw [List.getElem?_reverse (by omega),hl]
      exact e1
theorem XhS {P:Program} {n:Nat} {l:List Oper} {E0:Env} {Q:QA} {id:Nat} {G:Xi} (L:List Xi) (G':Xi) {N:Nat} (hm:P.follows .mixedOrders=true) (hB:XfN l=true) (hN:Xdw l l.length=N) (hG:hsL (G::L) N=G')
    (h:DY P n l (hsL (G::L)) 0 l [] E0 (fun E=>Q .normal E G')):wpA P n (.region id l.toArray true) Q E0 G :=
  Xxi L G' hm hB hN hG (DY.dx l 0 [] E0 rfl h)
theorem Xxf {P:Program} {n:Nat} {l:List Oper} {H:Xi} {E0:Env} {Q:QA} {id:Nat} (hm:P.follows .mixedOrders=true) (hB:XfN l=true)
    (h:DY P n l (fun _=>H) 0 l [] E0 (fun E=>Q .normal E H)):wpA P n (.region id l.toArray true) Q E0 H :=
  Xxh hm hB (DY.dx l 0 [] E0 rfl h)
section
variable {P:Program} {n:Nat} {l:List Oper} {acc:List PV} {Hs:Nat→Xi} {i:Nat} {o:Oper} {os:List Oper} {p:PV} {E:Env} {d:Nat} {K:Env→Prop}
theorem XwS {K:Env→Xi→Prop} {Q:QA} {H:Xi} (h:K E H):DY P n l Hs i [] acc E (fun E=>XeC K Q .normal E H):=h
theorem Y_k (hg:o.guard=none) (hl:Xq o=false) (hd:o.dst=some d) (hn:d < n) (h:∀ G,OpK P o (XK o E) G p G) (k:DY P n l Hs (i+1) os (p::acc) ((d,p)::E) K):DY P n l Hs i (o::os) acc E K:=by
  refine ⟨p,⟨fun d' hd'=>by rw [hd] at hd';cases hd';exact hn,?_⟩,by rw [hd];exact k⟩
  rw [hg,hl]
  exact fun c _ _=>h (Hs c)
theorem Y_v (hg:o.guard=none) (hl:Xq o=false) (hd:o.dst=some d) (hn:d < n) (h:∀ G,OpV P o (XK o E) G p) (k:DY P n l Hs (i+1) os (p::acc) ((d,p)::E) K):DY P n l Hs i (o::os) acc E K :=
  Y_k hg hl hd hn (fun G=>(h G).K) k
theorem Y_r {H:Xi} (c:Nat) (h1:XaF l i=c) (h2:XaR l i=c) (hH:Hs c=H) (hg:o.guard=none) (hl:Xq o=false) (hd:o.dst=some d) (hn:d < n) (h:OpV P o (XK o E) H p) (k:DY P n l Hs (i+1) os (p::acc) ((d,p)::E) K):DY P n l Hs i (o::os) acc E K:=by
  refine ⟨p,⟨fun d' hd'=>by rw [hd] at hd';cases hd';exact hn,?_⟩,by rw [hd];exact k⟩
  rw [hg,hl]
  intro c' hc1 hc2
  have:c'=c:=by omega
  subst this
  rw [hH]
  exact h.K
theorem Y_q {H:Xi} (hg:o.guard=none) (hl:Xq o=false) (hd:o.dst=some d) (hn:d < n) (h:OpV P o (XK o E) H p) (k:DY P n l (fun _=>H) (i+1) os (p::acc) ((d,p)::E) K):DY P n l (fun _=>H) i (o::os) acc E K:=by
  refine ⟨p,⟨fun d' hd'=>by rw [hd] at hd';cases hd';exact hn,?_⟩,by rw [hd];exact k⟩
  rw [hg,hl]
  exact fun _ _ _=>h.K
theorem Xw8 {H:Xi} (hg:o.guard=none) (hl:Xq o=false) (hd:o.dst=some d) (hn:d < n) (h:OpK P o (XK o E) H p H) (k:DY P n l (fun _=>H) (i+1) os (p::acc) ((d,p)::E) K):DY P n l (fun _=>H) i (o::os) acc E K:=by
  refine ⟨p,⟨fun d' hd'=>by rw [hd] at hd';cases hd';exact hn,?_⟩,by rw [hd];exact k⟩
  rw [hg,hl]
  exact fun _ _ _=>h
theorem Y_w {H H':Xi} (c:Nat) (hc:Xdw l i=c) (h1:Hs c=H) (hg:o.guard=none) (hl:Xq o=true) (hd:o.dst=some d) (hn:d < n) (h:OpW P o (XK o E) H p H') (h2:Hs (c+1)=H') (k:DY P n l Hs (i+1) os (p::acc) ((d,p)::E) K):DY P n l Hs i (o::os) acc E K:=by
  refine ⟨p,⟨fun d' hd'=>by rw [hd] at hd';cases hd';exact hn,?_⟩,by rw [hd];exact k⟩
  rw [hg,hl,hc,h1,h2]
  exact h.K
theorem Y_s {H H':Xi} (c:Nat) (hc:Xdw l i=c) (h1:Hs c=H) (hg:o.guard=none) (hl:Xq o=true) (hd:o.dst=none) (h:OpS P o (XK o E) H H') (h2:Hs (c+1)=H') (k:DY P n l Hs (i+1) os (.v undef::acc) E K):DY P n l Hs i (o::os) acc E K:=by
  refine ⟨.v undef,⟨(fun d' hd'=>by rw [hd] at hd';cases hd'),?_⟩,by rw [hd];exact k⟩
  rw [hg,hl,hc,h1,h2]
  exact h.K
theorem Y_c {H H':Xi} (c:Nat) (hc:Xdw l i=c) (h1:Hs c=H) (hg:o.guard=none) (hl:Xq o=true) (hd:o.dst=some d) (hn:d < n) (h:OpK P o (XK o E) H p H') (h2:Hs (c+1)=H') (k:DY P n l Hs (i+1) os (p::acc) ((d,p)::E) K):DY P n l Hs i (o::os) acc E K:=by
  refine ⟨p,⟨fun d' hd'=>by rw [hd] at hd';cases hd';exact hn,?_⟩,by rw [hd];exact k⟩
  rw [hg,hl,hc,h1,h2]
  exact h
theorem XA4 {j:Nat} {want:Bool} {oj:Oper} (h:∀ G,OpK P o (XK o E) G p G) (hg:o.guard=some (j,want)) (hji:j < i) (hv:acc[i - 1 - j]?=some (.v (.bool want))) (hj:l[j]?=some oj) (hjd:oj.dst.isSome=true) (hd:o.dst=some d) (hn:d < n)
    (k:DY P n l Hs (i+1) os (p::acc) ((d,p)::E) K):DY P n l Hs i (o::os) acc E K:=by
  refine ⟨p,⟨fun d' hd'=>by rw [hd] at hd';cases hd';exact hn,?_⟩,by rw [hd];exact k⟩
  rw [hg]
  exact ⟨want,oj,hji,hv,hj,hjd,fun _ c _ _=>h (Hs c),fun e=>absurd rfl e⟩
theorem Xw9 {j:Nat} {want:Bool} {oj:Oper} (h:∀ G,OpV P o (XK o E) G p) (hg:o.guard=some (j,want)) (hji:j < i) (hv:acc[i - 1 - j]?=some (.v (.bool want))) (hj:l[j]?=some oj) (hjd:oj.dst.isSome=true) (hd:o.dst=some d) (hn:d < n)
    (k:DY P n l Hs (i+1) os (p::acc) ((d,p)::E) K):DY P n l Hs i (o::os) acc E K :=
  XA4 (fun G=>(h G).K) hg hji hv hj hjd hd hn k
theorem Xfn {H:Xi} {j:Nat} {want:Bool} {oj:Oper} (h:OpV P o (XK o E) H p) (hg:o.guard=some (j,want)) (hji:j < i) (hv:acc[i - 1 - j]?=some (.v (.bool want))) (hj:l[j]?=some oj) (hjd:oj.dst.isSome=true) (hd:o.dst=some d) (hn:d < n)
    (k:DY P n l (fun _=>H) (i+1) os (p::acc) ((d,p)::E) K):DY P n l (fun _=>H) i (o::os) acc E K:=by
  refine ⟨p,⟨fun d' hd'=>by rw [hd] at hd';cases hd';exact hn,?_⟩,by rw [hd];exact k⟩
  rw [hg]
  exact ⟨want,oj,hji,hv,hj,hjd,fun _ _ _ _=>h.K,fun e=>absurd rfl e⟩
theorem Y_gn {j:Nat} {want b:Bool} {oj:Oper} (hg:o.guard=some (j,want)) (hji:j < i) (hv:acc[i - 1 - j]?=some (.v (.bool b))) (hb:b=!want) (hj:l[j]?=some oj) (hjd:oj.dst.isSome=true) (hd:o.dst=some d) (hn:d < n)
    (k:DY P n l Hs (i+1) os (.v undef::acc) ((d,.v undef)::E) K):DY P n l Hs i (o::os) acc E K:=by
  refine ⟨.v undef,⟨fun d' hd'=>by rw [hd] at hd';cases hd';exact hn,?_⟩,by rw [hd];exact k⟩
  rw [hg]
  refine ⟨b,oj,hji,hv,hj,hjd,fun e=>?_,fun _=>rfl⟩
  subst e;cases b <;> simp at hb
end
end Go.Th
namespace Go.Th
open Go.RowKit
section
variable {P:Program} {n:Nat} {Q:QA} {E:Env} {H:Xi} {ops:Array Oper} {rest:List Oper} {o:Oper}
theorem XqI {f:FuncId} {args args':List PV} {Q:PV→Prop} (h:Iso P f args' Q) (hc:ConvL H args args') (ht:∀ c ∈ args',Xk c) (hp:∀ p,Q p→∃ x,p=.v x):AC P f args H (fun p H'=>Q p∧H'=H):=by
  refine ⟨h.1,fun m w vals hR hv=>?_⟩
  obtain ⟨hl,hcc⟩:=hc.all
  have hlt:∀ b,(closed m H).ro b→b < w.heap.size:=fun b hb=>by
    rcases hb with hb | ⟨id,B,d,lim,hB,hm⟩
    · exact hR.kl b (hR.rk b hb)
    · exact hR.lt hB hm
  have hv':Xek { blk:=fun _=>none,ro:=(closed m H).ro,keep:=fun b=>b < w.heap.size } w args' vals:=⟨by rw [hl];exact hv.1,fun j c hj=>by
    obtain ⟨c0,h0⟩:∃ c0,args[j]?=some c0:=⟨_,List.getElem?_eq_getElem (by rw [← hl];exact (List.getElem?_eq_some_iff.1 hj).1)⟩
    have h1:=ht c (List.mem_of_getElem? hj) _ w _ ((hcc j c0 c h0 hj).rep hR ((hv.2 j c0 h0).mono hR.rk (Xfm hR)))
    exact Rep.mono' (m:={ closed m H with blk:=fun _=>none }) (m':={ blk:=fun _=>none,ro:=(closed m H).ro,keep:=fun b=>b < w.heap.size }) (w':=w) (fun _ _ h=>h) (fun _ h=>h) (fun _ _ _=>rfl) h1⟩
  refine (h.2 { blk:=fun _=>none,ro:=(closed m H).ro,keep:=fun b=>b < w.heap.size } w vals hlt (fun b hb=>hb) (fun _=>rfl) hv').mono ?_
  rintro e w' ⟨v,p,m',rfl,hq,hr,hn,hle,hk1,hk2⟩
  obtain ⟨x,rfl⟩:=hp p hq
  have hx:v=x:=XJ hr
  have hsame:∀ b,b < w.heap.size→w'.heap[b]?=w.heap[b]?:=fun b hb=>hle.same b hb
  obtain ⟨hR',hle'⟩:=hR.world hle.size hle.os hle.tape hle.output (fun b hb=>hsame b (hR.kl b hb)) (fun id B b d lim hB hm=>hsame b (hR.lt hB hm))
  refine ⟨v,.v x,H,m,rfl,⟨hq,rfl⟩,?_,hR',hle'⟩
  cases hr with
  | v _ hna=>exact .v _ hna
theorem XAO {c:Call} {x:Operand} {g:FuncId} {cap args args':List PV} {u:Value} (ho:o.op=.call c) (hc:c.callee=.value x) (hx:E.ev x=some (.fn (.func g) cap))
    (ha:evs E c.args.toList=some args) (h:Iso P g args' (fun q=>q=.v u)) (hcv:ConvL H (args++cap) args') (ht:∀ c ∈ args',Xk c):OpK P o E H (.v u) H :=
  AC.K ho hc hx ha (XqI h hcv ht (fun p hp=>⟨u,hp⟩))
theorem Xtr {c:Call} {x:Operand} {g:FuncId} {cap args args':List PV} {QC:PV→Prop} {d:Nat} (hg:o.guard=none) (ho:o.op=.call c) (hc:c.callee=.value x) (hx:E.ev x=some (.fn (.func g) cap))
    (ha:evs E c.args.toList=some args) (hdd:o.dst=some d) (hd:d < n) (h:Iso P g args' QC) (hcv:ConvL H (args++cap) args') (ht:∀ c ∈ args',Xk c) (hp:∀ p,QC p→∃ x,p=.v x)
    (k:∀ p,QC p→wpL P n ops rest Q ((d,p)::E) H):wpL P n ops (o::rest) Q E H :=
  X5 hg ho hc hx ha hdd hd (XqI h hcv ht hp) (fun p H' ⟨hq,e⟩=>e ▸ k p hq)
theorem Xtn {f:FuncId} {args args':List PV} {Q:PV→Prop} (h:Iso P f args' Q) (hw:WkL args args'):Iso P f args Q:=by
  obtain ⟨hl,hc⟩:=hw.all
  refine ⟨h.1,fun m w vals h1 h2 h3 h4=>h.2 m w vals h1 h2 h3 ⟨by rw [hl];exact h4.1,fun j c hj=>?_⟩⟩
  obtain ⟨c0,a,b⟩:=hc j c hj
  exact b m w _ (h4.2 j c0 a)
end
section
variable {P:Program} {n:Nat} {l:List Oper} {acc:List PV} {Hs:Nat→Xi} {i:Nat} {o:Oper} {os:List Oper} {p:PV} {E:Env} {d:Nat} {K:Env→Prop}
end
end Go.Th
namespace Go.Th
open Go.RowKit
def gv (b want:Bool) (p:PV):PV:=match b == want with
  | true=>p
  | false=>.v undef
theorem Xvn (b:Bool) (p:PV):gv b b p=p:=by cases b <;> rfl
theorem Xzh {b want:Bool} (h:b≠want) (p:PV):gv b want p=.v undef:=by cases b <;> cases want <;> first | rfl | exact absurd rfl h
section
variable {P:Program} {n:Nat} {Q:QA} {E:Env} {H:Xi} {ops:Array Oper} {rest:List Oper} {o:Oper} {p:PV} {d:Nat}
theorem Xxd {H':Xi} (hg:o.guard=none) (hd:o.dst=some d) (hn:d < n) (h:OpK P o E H p H') (k:wpL P n ops rest Q ((d,p)::E) H'):wpL P n ops (o::rest) Q E H:=by
  rintro rd m0 w0 a w ⟨h1,h2,m,h3,h4,h5⟩
  refine wpListIn_plain hg fun K hK=>?_
  refine h rd m w a _ _ h4 (fun x q hx=>h5.ev hx) fun v m' w' hle hR hr=>?_
  rw [hd]
  exact Zdi
theorem XcF {og:Oper} {j dj:Nat} {want b:Bool} (h:b=want→OpK P { o with guard:=none } E H p H) (hg:o.guard=some (j,want)) (hj:ops[j]?=some og) (hdj:og.dst=some dj) (hb:E.get dj=some (.v (.bool b))) (hd:o.dst=some d) (hn:d < n)
    (k:wpL P n ops rest Q ((d,gv b want p)::E) H):wpL P n ops (o::rest) Q E H :=
  Xtt hg hj hdj hb hd hn (fun e=>Xxd rfl hd hn (h e) (by subst e;rw [Xvn] at k;exact k)) (fun e=>by rw [Xzh e] at k;exact k)
theorem XdK {og:Oper} {j dj:Nat} {want b:Bool} (h:b=want→OpV P { o with guard:=none } E H p) (hg:o.guard=some (j,want)) (hj:ops[j]?=some og) (hdj:og.dst=some dj) (hb:E.get dj=some (.v (.bool b))) (hd:o.dst=some d) (hn:d < n)
    (k:wpL P n ops rest Q ((d,gv b want p)::E) H):wpL P n ops (o::rest) Q E H :=
  XcF (fun e=>(h e).K) hg hj hdj hb hd hn k
theorem XwY {c a z:Operand} {b x:Bool} (ho:o.op=.pick c a z) (hc:E.ev c=some (.v (.bool b))) (ha:b=true→E.ev a=some (.v (.bool x))) (hz:E.ev z=some (.v (.bool false))):OpV P o E H (.v (.bool (b && x))):=by
  cases b with
  | true=>exact Xa2 ho hc rfl (ha rfl)
  | false=>exact Xbd ho hc rfl hz
theorem Xxb {b:Bool} (hg:o.guard=none) (hd:o.dst=some d) (hn:d < n) (h:OpV P o E H (.v (.bool b))) (k:∀ b',b'=b→wpL P n ops rest Q ((d,.v (.bool b'))::E) H):wpL P n ops (o::rest) Q E H :=
  Xn hg hd hn h (k b rfl)
end
section
variable {P:Program} {n:Nat} {l:List Oper} {acc:List PV} {Hs:Nat→Xi} {i:Nat} {o:Oper} {os:List Oper} {p:PV} {E:Env} {d:Nat} {K:Env→Prop}
end
end Go.Th
namespace Go.Th
open Go.RowKit
section
variable {P:Program} {n:Nat} {Q:QA} {E:Env} {H:Xi} {ops:Array Oper} {rest:List Oper}
theorem Xxe {o og:Oper} {j dj d:Nat} {want:Bool} (hg:o.guard=some (j,want)) (hj:ops[j]?=some og) (hdj:og.dst=some dj) (hb:E.get dj=some (.v undef)) (hd:o.dst=some d) (hn:d < n)
    (h2:wpL P n ops rest Q ((d,.v undef)::E) H):wpL P n ops (o::rest) Q E H:=by
  intro rd m0 w0 a w hat
  obtain ⟨a1,a2,m,a3,a4,a5⟩:=hat
  have hr:=a5 dj _ hb
  have he:a.tmps.getD dj undef=undef:=XJ hr
  have hy:yielded ops a.tmps j=none:=by
    simp only [yielded,hj,hdj,Option.bind_some]
    rw [Array.getD_eq_getD_getElem?] at he
    cases h:a.tmps[dj]? with
    | none=>rfl
    | some v =>
      rw [h] at he
      simp at he
      subst he
      rfl
  have hw:Region.wanted o (yielded ops a.tmps)=false:=by simp [Region.wanted,hg,hy]
  unfold wpListIn
  rw [hw,if_neg (by simp),hd]
  refine ⟨fun f _=>Xb6 rd f,?_⟩
  exact h2 rd m0 w0 _ w ⟨by simp [Act.put,a1],a2,m,a3,a4,a5.put (by omega) (.v _ rfl)⟩
end
end Go.Th
namespace Go.Th
open Go.RowKit
def XdA (fx:List Nat × List Nat) (l:List Oper) (i:Nat):Bool:=(XaT l i || fx.2.contains i) && !fx.1.contains i
def XhK (fx:List Nat × List Nat) (l:List Oper) (listed:Array Bool):Nat:=(List.range l.length).countP fun i=>XdA fx l i && listed.getD i false
def loF (fx:List Nat × List Nat) (l:List Oper) (i:Nat):Nat:=(List.range l.length).countP fun j=>XdA fx l j && Xa4 (bef l []) j i
def hiF (fx:List Nat × List Nat) (l:List Oper) (i:Nat):Nat:=(List.range l.length).countP fun j=>XdA fx l j && !Xa4 (bef l []) i j
def nF (fx:List Nat × List Nat) (l:List Oper) (i:Nat):Nat:=(List.range l.length).countP fun j=>XdA fx l j && decide (j < i)
def XeK (fx:List Nat × List Nat) (l:List Oper):Bool :=
  let bs:=bef l []
  Xsc l &&
  (l.zipIdx.all fun (oi,i)=>l.zipIdx.all fun (oj,j)=>Nat.beq i j ||
    ((oi.dst.all fun d=>!(Xa6 oj).contains d || (if i < j then Xa4 bs i j else Xa4 bs j i)) &&
     (oi.dst.all fun d=>oj.dst.all fun d'=>!Nat.beq d d') &&
     (!(((Xq oi || fx.2.contains i) && !fx.1.contains i) && ((Xq oj || fx.2.contains j) && !fx.1.contains j)) || (if i < j then Xa4 bs i j else Xa4 bs j i)))) &&
  (l.zipIdx.all fun (o,i)=>match o.guard with
    | none=>true
    | some (j,_)=>Xa4 bs j i && Nat.blt j i && !(Xq o || fx.2.contains i))
structure DrawOkF (fx:List Nat × List Nat) (l:List Oper):Prop where
  down:∀ (i:Nat) (o:Oper),l[i]?=some o→∀ e ∈ o.after,Region.binds .any e=true→e.on < i
  slot:∀ (i j:Nat) (oi oj:Oper) (d:Nat),i≠j→l[i]?=some oi→l[j]?=some oj→oi.dst=some d→d ∈ Xa6 oj→(i < j→Xa4 (bef l []) i j=true)∧(j < i→Xa4 (bef l []) j i=true)
  dst:∀ (i j:Nat) (oi oj:Oper) (d:Nat),i≠j→l[i]?=some oi→l[j]?=some oj→oi.dst=some d→oj.dst≠some d
  loud:∀ (i j:Nat) (oi oj:Oper),i < j→l[i]?=some oi→l[j]?=some oj→((Xq oi || fx.2.contains i) && !fx.1.contains i)=true→((Xq oj || fx.2.contains j) && !fx.1.contains j)=true→Xa4 (bef l []) i j=true
  guard:∀ (i j:Nat) (o:Oper) (w:Bool),l[i]?=some o→o.guard=some (j,w)→Xa4 (bef l []) j i=true∧j < i∧(Xq o || fx.2.contains i)=false
theorem Xqf {fx:List Nat × List Nat} {l:List Oper} (h:XeK fx l=true):DrawOkF fx l:=by
  unfold XeK at h
  simp only [Bool.and_eq_true] at h
  obtain ⟨⟨h1,h2⟩,h3⟩:=h
  have pair:∀ (i j:Nat) (oi oj:Oper),i≠j→l[i]?=some oi→l[j]?=some oj →
      ((oi.dst.all fun d=>!(Xa6 oj).contains d || (if i < j then Xa4 (bef l []) i j else Xa4 (bef l []) j i))=true∧(oi.dst.all fun d=>oj.dst.all fun d'=>!Nat.beq d d')=true ∧
       (!(((Xq oi || fx.2.contains i) && !fx.1.contains i) && ((Xq oj || fx.2.contains j) && !fx.1.contains j)) || (if i < j then Xa4 (bef l []) i j else Xa4 (bef l []) j i))=true):=fun i j oi oj hne hi hj=>by
    have:=XbP (XbP h2 hi) hj
    rw [Bool.or_eq_true] at this
    rcases this with this | this
    · exact absurd (Nat.eq_of_beq_eq_true this) hne
    · rw [Bool.and_eq_true,Bool.and_eq_true] at this
      exact ⟨this.1.1,this.1.2,this.2⟩
  refine ⟨fun i o hi e he hb=>?_,fun i j oi oj d hne hi hj hd hm=>?_,fun i j oi oj d hne hi hj hd hd'=>?_,fun i j oi oj hlt hi hj h1 h2=>?_,fun i j o w hi hg=>?_⟩
  · have:=XbP h1 hi
    have:=List.all_eq_true.1 this e (by simpa using he)
    simp only [hb,Bool.not_true,Bool.false_or] at this
    exact Zcj
  · have:=(pair i j oi oj hne hi hj).1
    rw [hd] at this
    simp only [Option.all_some,Bool.or_eq_true,Bool.not_eq_true'] at this
    rcases this with this | this
    · have hc:(Xa6 oj).contains d=true:=by simpa using hm
      rw [hc] at this;cases this
    · exact Zck
  · have:=(pair i j oi oj hne hi hj).2.1
    rw [hd,hd'] at this
    simp at this
  · have:=(pair i j oi oj (by omega) hi hj).2.2
    rw [h1,h2] at this
    simpa [hlt] using this
  · have:=XbP h3 hi
    rw [hg] at this
    simp only [Bool.and_eq_true,Bool.not_eq_true'] at this
    exact Zcl
theorem DrawOkF.irr {fx:List Nat × List Nat} {l:List Oper} (ho:DrawOkF fx l) (i j:Nat) (h:Xa4 (bef l []) j i=true):j < i :=
  Xiu l [] (fun k o hk e he hb=>by have:=ho.down k o hk e he hb;simpa using this) (fun i j hi=>by simp at hi) i j h
theorem Xhr {fx:List Nat × List Nat} {l:List Oper} (ho:DrawOkF fx l) {listed:Array Bool} (hs:listed.size=l.length) (h:Region.ready .any l.toArray listed=[]):∀ i,i < l.length→listed.getD i false=true:=by
  intro i
  induction i using Nat.strongRecOn with
  | _ i ih =>
    intro hi
    cases hf:listed.getD i false with
    | true=>rfl
    | false =>
      exfalso
      have hmem:i ∈ Region.ready .any l.toArray listed:=by
        rw [mem_ready]
        refine ⟨?_,l[i],by simp [hi],fun e he hb=>?_⟩
        · rw [Array.getD_eq_getD_getElem?,Array.getElem?_eq_getElem (by omega)] at hf ⊢
          simpa using hf
        · have:=ho.down i l[i] (by simp [hi]) e he hb
          exact ih e.on this (by omega)
      rw [h] at hmem;cases hmem
theorem XmY {fx:List Nat × List Nat} {l:List Oper} {listed:Array Bool} {i:Nat} (hi:i < l.length) (hs:listed.size=l.length) (hf:listed.getD i false=false) :
    XhK fx l (listed.setIfInBounds i true)=XhK fx l listed+if XdA fx l i then 1 else 0:=by
  unfold XhK
  have hget:∀ j,(listed.setIfInBounds i true).getD j false=(listed.getD j false || decide (j=i)):=fun j=>by
    by_cases e:i=j
    · subst e;simp [Array.getD_eq_getD_getElem?,hs,hi]
    · rw [getD_set_ne false e];simp [Ne.symm e]
  have h:∀ (r:List Nat),r.Nodup→i ∈ r→(r.countP fun j=>XdA fx l j && (listed.setIfInBounds i true).getD j false)=(r.countP fun j=>XdA fx l j && listed.getD j false)+if XdA fx l i then 1 else 0:=by
    intro r
    induction r with
    | nil=>intro _ h;cases h
    | cons x r ih =>
      intro hnd hmem
      rw [List.nodup_cons] at hnd
      rw [List.countP_cons,List.countP_cons]
      by_cases e:x=i
      · subst e
        have hrest:(r.countP fun j=>XdA fx l j && (listed.setIfInBounds x true).getD j false)=r.countP fun j=>XdA fx l j && listed.getD j false:=by
          apply List.countP_congr
          intro j hj
          have:j≠x:=fun e=>hnd.1 (e ▸ hj)
          rw [hget];simp [this]
        rw [hrest,hget,hf]
        cases XdA fx l x <;> simp
      · have hm:i ∈ r:=by
          rcases List.mem_cons.1 hmem with h | h
          · exact absurd h.symm e
          · exact h
        rw [ih hnd.2 hm,hget]
        simp [e]
        omega
  exact h _ List.nodup_range (List.mem_range.2 hi)
theorem Rep.retop {m:Mp} {w:World} {c:PV} {v:Value} (t:Nat) (hr:Rep m w c v):Rep { m with top:=t } w c v :=
  Rep.mono' (m:=m) (w:=w) (m':={ m with top:=t }) (w':=w) (fun _ _ h=>h) (fun _ h=>h) (fun _ _ _=>rfl) hr
theorem R.retop {m:Mp} {H:Xi} {w:World} (h:R m H w) {t:Nat} (ht:t≤H.length):R { m with top:=t } H w:=by
  refine ⟨h.rk,h.kl,h.dom,fun id B b d lim hi hm=>?_,h.inj,ht⟩
  obtain ⟨h0,⟨cur,h1,h2,h3,h4⟩,h5⟩:=h.blk id B b d lim hi hm
  exact ⟨h0,⟨cur,h1,h2,h3,fun j c hj=>let ⟨v,hv,hr,h1v⟩:=h4 j c hj;⟨v,hv,hr.retop t,h1v⟩⟩,h5⟩
theorem Le.retop {m m':Mp} {w w':World} (h:Le m w m' w') {t:Nat} (ht:t≤m.top):Le { m with top:=t } w { m' with top:=t } w' :=
  ⟨h.blk,h.ro,h.keep,h.same,h.size,h.os,h.tape,h.output,h.fresh,rfl,fun id hid=>h.old id (Nat.lt_of_lt_of_le hid ht)⟩
theorem R.bind {m:Mp} {H:Xi} {w:World} (h:R m H w) {gid:Nat} {B:Blk} {vs:Array Value} (hB:H[gid]?=some (some B)) (hown:B.own=true) (hn:m.blk gid=none) (hc:CR m w B.cells vs.toList) (h1:B.cells.all XZ=true) :
    R { m with blk:=fun i=>if i=gid then some (w.heap.size,0,vs.size) else m.blk i } H (w.alloc (.cells vs B.elem.tid)):=by
  obtain ⟨hR1,hle1⟩:=h.alloc_any (.cells vs B.elem.tid)
  have hmono:∀ id x,m.blk id=some x→(if id=gid then some (w.heap.size,0,vs.size) else m.blk id)=some x:=fun id x hx=>by
    by_cases e:id=gid
    · subst e;rw [hn] at hx;cases hx
    · rw [if_neg e];exact hx
  have hsz:vs.size=B.cells.length:=by simpa using hc.1
  have rep:∀ c v,Rep m (w.alloc (.cells vs B.elem.tid)) c v→Rep { m with blk:=fun i=>if i=gid then some (w.heap.size,0,vs.size) else m.blk i } (w.alloc (.cells vs B.elem.tid)) c v:=fun c v hr =>
    Rep.mono' (m:=m) (w:=w.alloc (.cells vs B.elem.tid)) (m':={ m with blk:=fun i=>if i=gid then some (w.heap.size,0,vs.size) else m.blk i }) (w':=w.alloc (.cells vs B.elem.tid)) hmono (fun _ h=>h) (fun _ _ _=>rfl) hr
  refine ⟨h.rk,hR1.kl,fun id x hx=>?_,fun id C b d lim hi hm=>?_,fun i j C D bi di li bj dj lj hne hi hj ho1 ho2 hmi hmj=>?_,h.top⟩
  · by_cases e:id=gid
    · subst e;exact (List.getElem?_eq_some_iff.1 hB).1
    · exact h.dom id x (by simpa [e] using hx)
  · by_cases e:id=gid
    · subst e
      rw [hB] at hi;cases hi
      simp only [if_true,Option.some.injEq,Prod.mk.injEq] at hm
      obtain ⟨rfl,rfl,rfl⟩:=hm
      refine ⟨trivial,⟨vs,heap_alloc_new w _,rfl,by omega,fun j c hj=>?_⟩,fun _ hk=>?_,fun e=>by rw [hown] at e;cases e⟩
      · obtain ⟨v,hv,hr,h1v⟩:=Xfr hc h1 j c hj
        exact ⟨v,by simpa using hv,rep c v (hr.mono h.rk hle1),h1v⟩
      · have:=h.kl _ hk;omega
    · have hm':m.blk id=some (b,d,lim):=by simpa [e] using hm
      obtain ⟨h0,⟨cur,g1,g2,g3,g4⟩,h5,h6⟩:=hR1.blk id C b d lim hi hm'
      refine ⟨h0,⟨cur,g1,g2,g3,fun j c hj=>?_⟩,h5,h6⟩
      obtain ⟨v,hv,hr,h1v⟩:=g4 j c hj
      exact ⟨v,hv,rep c v hr,h1v⟩
  · have old:∀ (i:Nat) (C:Blk) (b d li:Nat),H[i]?=some (some C)→i≠gid→(if i=gid then some (w.heap.size,0,vs.size) else m.blk i)=some (b,d,li)→m.blk i=some (b,d,li)∧b < w.heap.size:=fun i C b d li hi e hm=>by
      rw [if_neg e] at hm
      exact ⟨hm,h.lt hi hm⟩
    by_cases ei:i=gid
    · have ej:j≠gid:=fun e=>hne (by rw [ei,e])
      obtain ⟨_,hlt⟩:=old j D bj dj lj hj ej hmj
      have hmi':(if i=gid then some (w.heap.size,0,vs.size) else m.blk i)=some (bi,di,li):=hmi
      rw [if_pos ei] at hmi'
      simp only [Option.some.injEq,Prod.mk.injEq] at hmi'
      omega
    · obtain ⟨hmi',hlt⟩:=old i C bi di li hi ei hmi
      by_cases ej:j=gid
      · have hmj':(if j=gid then some (w.heap.size,0,vs.size) else m.blk j)=some (bj,dj,lj):=hmj
        rw [if_pos ej] at hmj'
        simp only [Option.some.injEq,Prod.mk.injEq] at hmj'
        omega
      · obtain ⟨hmj',_⟩:=old j D bj dj lj hj ej hmj
        exact h.inj i j C D bi di li bj dj lj hne hi hj ho1 ho2 hmi' hmj'
def OpF (P:Program) (o:Oper) (E:Env) (gid:Nat) (B:Blk) (p:PV):Prop :=
  B.own=true∧B.cells.all XZ=true∧∀ m w (ρ:Operand→Value),(∀ x q,E.ev x=some q→Rep m w q (ρ x)) →
    ∃ vs v,(execOp ρ o).run P w=.ok (.value v) (w.alloc (.cells vs B.elem.tid))∧CR m w B.cells vs.toList∧∀ m',m'.blk gid=some (w.heap.size,0,vs.size)→Rep m' (w.alloc (.cells vs B.elem.tid)) p v
theorem Xfp {P:Program} {o:Oper} {E:Env} {t:TypeId} {size bytes:Nat} {z:List Value} [hi:HasI P t size bytes z] {gid:Nat} (ho:o.op=.alloc t) (hz:z.all (fun x=>x.oneCell')=true) :
    OpF P o E gid ⟨z.map PV.v,t,true⟩ (.ptr gid 0):=by
  refine ⟨rfl,by simpa [XZ] using hz,fun m w ρ hρ=>?_⟩
  obtain ⟨i,zv,h3,_,_,h4,h5⟩:=hi.i
  refine ⟨zv.cells,_,?_,by rw [h5];exact Xtp hz,fun m' hm=>.ptr (off:=0) hm⟩
  simp [execOp,ho,Instr.alloc,zeroValue,typeInfo,h3,h4,newVar,newRow,Elem.tid]
section
variable {P:Program} {n:Nat} {fx:List Nat × List Nat} {gid:Nat→Nat} {mt:Nat} {l:List Oper} {vals:List PV} {Hs:Nat→Xi} {E0:Env} {m0:Mp} {w0:World} {rd:Option Nat}
def DFF (P:Program) (n:Nat) (fx:List Nat × List Nat) (gid:Nat→Nat) (l:List Oper) (vals:List PV) (Hs:Nat→Xi) (E0:Env) (i:Nat) (o:Oper) (p:PV):Prop :=
  (∀ d,o.dst=some d→d < n) ∧
  match fx.1.contains i with
  | true=>o.guard=none∧o.dst.isSome=true∧∃ B,OpF P o (XK o (X3 (l.take i) (vals.take i) E0)) (gid i) B p∧∀ k,loF fx l i≤k→k≤hiF fx l i→(Hs k)[gid i]?=some (some B)
  | false=>match o.guard with
    | none=>match (Xq o || fx.2.contains i) with
      | true=>OpK P o (XK o (X3 (l.take i) (vals.take i) E0)) (Hs (nF fx l i)) p (Hs (nF fx l i+1))
      | false=>∀ k,loF fx l i≤k→k≤hiF fx l i→OpK P o (XK o (X3 (l.take i) (vals.take i) E0)) (Hs k) p (Hs k)
    | some (j,want)=>∃ b oj,vals[j]?=some (.v (.bool b))∧l[j]?=some oj∧oj.dst.isSome=true ∧
        (b=want→∀ k,loF fx l i≤k→k≤hiF fx l i→OpK P o (XK o (X3 (l.take i) (vals.take i) E0)) (Hs k) p (Hs k))∧(b≠want→p=.v undef)
structure InvF (n:Nat) (fx:List Nat × List Nat) (gid:Nat→Nat) (mt:Nat) (l:List Oper) (vals:List PV) (Hs:Nat→Xi) (E0:Env) (m0:Mp) (w0:World) (listed:Array Bool) (a:Act) (w:World):Prop where
  size:listed.size=l.length
  closed:Xeo l.toArray listed
  tmps:a.tmps.size=n
  rel:∃ m,m.top=mt∧LeD m0 w0 { m with top:=m0.top } w a.defers∧R m (Hs (XhK fx l listed)) w∧(∀ (j:Nat) (o:Oper) (d:Nat) (p:PV),listed.getD j false=true→l[j]?=some o→o.dst=some d→vals[j]?=some p→Rep m w p (a.tmps.getD d undef)) ∧
    (∀ t p,E0.get t=some p→(∀ (j:Nat) (o:Oper),listed.getD j false=true→l[j]?=some o→o.dst≠some t)→Rep m w p (a.tmps.getD t undef)) ∧
    (∀ j,fx.1.contains j=true→listed.getD j false=false→m.blk (gid j)=none)
theorem Xpy (ho:DrawOkF fx l) (hgid:∀ j,fx.1.contains j=true→m0.top≤gid j∧gid j < mt) (hinj:∀ i j,fx.1.contains i=true→fx.1.contains j=true→gid i=gid j→i=j) (hmt:m0.top≤mt)
    (hv:vals.length=l.length) (hf:∀ (i:Nat) (o:Oper) (p:PV),l[i]?=some o→vals[i]?=some p→DFF P n fx gid l vals Hs E0 i o p) {Q:Exit→Act→World→Prop} {K:Act→World→Prop}
    {listed:Array Bool} {a:Act} {w:World} (hI:InvF n fx gid mt l vals Hs E0 m0 w0 listed a w) {i:Nat} (hi:i ∈ Region.ready .any l.toArray listed)
    (hK:∀ a' w',InvF n fx gid mt l vals Hs E0 m0 w0 (listed.setIfInBounds i true) a' w'→K a' w'):wpOpIn (fen rd) 0 P l.toArray Q i K a w:=by
  obtain ⟨hiu,o,hio,hdeps⟩:=mem_ready.1 hi
  have hil:l[i]?=some o:=by simpa using hio
  have hlt:i < l.length:=(List.getElem?_eq_some_iff.1 hil).1
  obtain ⟨p,hp⟩:∃ p,vals[i]?=some p:=⟨_,List.getElem?_eq_getElem (by omega)⟩
  have hif:listed.getD i false=false:=XaD hiu
  obtain ⟨m,htop,hle,hR,hr1,hr2,hun⟩:=hI.rel
  have hlen:=hI.size
  have hL':∀ j,(listed.setIfInBounds i true).getD j false=true↔(listed.getD j false=true∨j=i):=fun j=>by
    by_cases e:i=j
    · subst e;simp [Array.getD_eq_getD_getElem?,hlen,hlt]
    · rw [getD_set_ne false e];simp [Ne.symm e]
  have hclosed':Xeo l.toArray (listed.setIfInBounds i true):=fun k ok hk hkl e he hb=>by
    rw [hL'] at hkl ⊢
    rcases hkl with hkl | rfl
    · exact ZbJ
    · rw [hio] at hk;cases hk
      exact .inl (hdeps e he hb)
  have hbefi:∀ j,Xa4 (bef l []) j i=true→j≠i→listed.getD j false=true:=fun j hb hne=>by
    have:=XbY hclosed' l [] (fun k=>by simp) (fun i j hi=>by simp at hi) i j hb ((hL' i).2 (.inr rfl))
    rcases (hL' j).1 this with h | h
    · exact h
    · exact absurd h hne
  have hbefo:∀ j,Xa4 (bef l []) i j=true→listed.getD j false=false:=fun j hb=>by
    cases hj:listed.getD j false with
    | false=>rfl
    | true =>
      have:=XbY hI.closed l [] (fun k=>by simp) (fun i j hi=>by simp at hi) j i hb hj
      rw [hif] at this;cases this
  have hEi:∀ t q,(XK o (X3 (l.take i) (vals.take i) E0)).get t=some q→Rep m w q (a.tmps.getD t undef):=fun t q ht=>by
    have hts:t ∈ Xa6 o:=Env.only_self _ _ t q ht
    have ht':=Env.only_get _ _ t q ht
    rcases Xbk _ _ _ t q ht' with ⟨j,oj,h1,h2,h3,h4⟩ | ⟨h1,h2⟩
    · have hji:j < i:=by simp at h1;omega
      rw [List.getElem?_take,if_pos hji] at h2 h4
      have:=(ho.slot j i oj o t (by omega) h2 hil h3 hts).1 hji
      exact ZbK
    · refine hr2 t q h1 fun j oj hj hjl hd=>?_
      rcases Nat.lt_or_ge j i with hlt2 | hge
      · exact h2 j oj (by simp;omega) (by rw [List.getElem?_take,if_pos hlt2];exact hjl) hd
      · have hne:j≠i:=fun e=>by rw [e] at hj;rw [hif] at hj;cases hj
        have:=(ho.slot j i oj o t hne hjl hil hd hts).2 (by omega)
        rw [hbefo j this] at hj;cases hj
  have hev:∀ x q,(XK o (X3 (l.take i) (vals.take i) E0)).ev x=some q→Rep m w q (a.eval x):=fun x q hx=>FR.ev (a:=a) hEi hx
  have hdf:=hf i o p hil hp
  have fin0:∀ (v:Value) (m':Mp) (w':World),m'.top=mt→LeD m0 w0 { m' with top:=m0.top } w' a.defers→(∀ c x,Rep m w c x→Rep m' w' c x)→R m' (Hs (XhK fx l (listed.setIfInBounds i true))) w'→Rep m' w' p v →
      (∀ j,fx.1.contains j=true→(listed.setIfInBounds i true).getD j false=false→m'.blk (gid j)=none)→K (a.put o.dst v) w':=fun v m' w' htop' hle' hmono hR' hrep hun'=>by
    refine hK _ _ ⟨by simp [hlen],hclosed',by cases o.dst <;> simp [Act.put,hI.tmps],m',htop',hle'.put,hR',fun j oj d q hj hjl hd hq=>?_,fun t q ht hno=>?_,hun'⟩
    · rcases (hL' j).1 hj with hj | rfl
      · have hne:i≠j:=fun e=>by rw [← e,hif] at hj;cases hj
        have hrj:=hmono _ _ (hr1 j oj d q hj hjl hd hq)
        cases hdo:o.dst with
        | none=>simpa [Act.put,hdo] using hrj
        | some d' =>
          have hdd:d'≠d:=fun e=>ho.dst i j o oj d hne hil hjl (by rw [hdo,e]) hd
          simpa [Act.put,hdo,Array.getD_eq_getD_getElem?,Array.getElem?_setIfInBounds_ne hdd] using hrj
      · rw [hil] at hjl;cases hjl
        rw [hp] at hq;cases hq
        have hdn:d < a.tmps.size:=by rw [hI.tmps];exact hdf.1 d hd
        simpa [Act.put,hd,Array.getD_eq_getD_getElem?,hdn] using hrep
    · have hdt:o.dst≠some t:=hno i o ((hL' i).2 (.inr rfl)) hil
      have hrt:=hmono _ _ (hr2 t q ht (fun j oj hj hjl=>hno j oj ((hL' j).2 (.inl hj)) hjl))
      cases hdo:o.dst with
      | none=>simpa [Act.put,hdo] using hrt
      | some d' =>
        have hdd:d'≠t:=fun e=>hdt (by rw [hdo,e])
        simpa [Act.put,hdo,Array.getD_eq_getD_getElem?,Array.getElem?_setIfInBounds_ne hdd] using hrt
  have hunl:∀ j,(listed.setIfInBounds i true).getD j false=false→listed.getD j false=false∧j≠i:=fun j hj=>by
    refine ⟨?_,fun e=>?_⟩
    · cases h:listed.getD j false with
      | false=>rfl
      | true=>rw [(hL' j).2 (.inl h)] at hj;cases hj
    · rw [(hL' j).2 (.inr e)] at hj;cases hj
  have fin:∀ (v:Value) (m':Mp) (w':World),Le m w m' w'→R m' (Hs (XhK fx l (listed.setIfInBounds i true))) w'→Rep m' w' p v→K (a.put o.dst v) w':=fun v m' w' hle' hR' hrep=>by
    have h3:=hle'.retop (t:=m0.top) (by rw [htop];exact hmt)
    refine fin0 v m' w' (hle'.top.trans htop) (hle.trans h3) (fun c x hr=>hr.mono hR.rk hle') hR' hrep fun j hj hjl=>?_
    rw [hle'.old _ (by rw [htop];exact (hgid j hj).2)]
    exact hun j hj (hunl j hjl).1
  have hla:XdA fx l i=((Xq o || fx.2.contains i) && !fx.1.contains i):=by simp [XdA,XaT,hil]
  have hcnt:=XmY (fx:=fx) (l:=l) hlt hlen hif
  rw [hla] at hcnt
  have hlo:loF fx l i≤XhK fx l listed:=by
    refine Xdh _ _ _ fun j hj hb=>?_
    simp only [Bool.and_eq_true] at hb ⊢
    exact ZbL
  have hhi:XhK fx l listed≤hiF fx l i:=by
    refine Xdh _ _ _ fun j hj hb=>?_
    simp only [Bool.and_eq_true,Bool.not_eq_true'] at hb ⊢
    refine ⟨hb.1,?_⟩
    cases hbb:Xa4 (bef l []) i j with
    | false=>rfl
    | true=>rw [hbefo j hbb] at hb;cases hb.2
  have h2:=hdf.2
  unfold wpOpIn
  simp only [hio]
  cases hfi:fx.1.contains i with
  | true =>
    rw [hfi] at h2 hcnt
    simp only at h2
    obtain ⟨hg,hds,B,⟨hown,h1,hF⟩,hB⟩:=h2
    have hw:Region.wanted o (yielded l.toArray a.tmps)=true:=by simp [Region.wanted,hg]
    rw [if_pos hw]
    obtain ⟨vs,v,hrun,hc,hrep⟩:=hF m w a.eval hev
    have hn:=hun i hfi hif
    have hbind:=R.bind hR (hB _ hlo hhi) hown hn hc h1
    have hmono:∀ id x,m.blk id=some x→(if id=gid i then some (w.heap.size,0,vs.size) else m.blk id)=some x:=fun id x hx=>by
      by_cases e:id=gid i
      · subst e;rw [hn] at hx;cases hx
      · rw [if_neg e];exact hx
    refine Xdu hrun ?_
    refine fin0 v { m with blk:=fun k=>if k=gid i then some (w.heap.size,0,vs.size) else m.blk k } _ htop ?_ (fun c x hr=>?_) ?_ (hrep _ (by simp)) fun j hj hjl=>?_
    · refine hle.trans ⟨hmono,fun _ h=>h,fun _ h=>h,fun b hb=>Below.heap_alloc w _ b (hR.kl b hb),by simp,rfl,rfl,rfl,fun _ h=>.inl h,rfl,fun id hid=>?_⟩
      have hid':id < m0.top:=hid
      have:=(hgid i hfi).1
      show (if id=gid i then some (w.heap.size,0,vs.size) else m.blk id)=m.blk id
      rw [if_neg (by omega)]
    · exact Rep.mono' (m:=m) (w:=w) (m':={ m with blk:=fun k=>if k=gid i then some (w.heap.size,0,vs.size) else m.blk k }) (w':=w.alloc (.cells vs B.elem.tid)) hmono (fun _ h=>h)
        (fun b x hb=>World.cell?_of_block (Below.heap_alloc w _ b (hR.kl b (hR.rk b hb)))) hr
    · rw [hcnt];simpa using hbind
    · obtain ⟨h5,h6⟩:=hunl j hjl
      show (if gid j=gid i then some (w.heap.size,0,vs.size) else m.blk (gid j))=none
      rw [if_neg (fun e=>h6 (hinj j i hj hfi e))]
      exact hun j hj h5
  | false =>
    rw [hfi] at h2 hcnt
    simp only [Bool.not_false,Bool.and_true] at h2 hcnt
    cases hg:o.guard with
    | none =>
      have hw:Region.wanted o (yielded l.toArray a.tmps)=true:=by simp [Region.wanted,hg]
      rw [if_pos hw]
      rw [hg] at h2
      simp only at h2
      cases hlo':(Xq o || fx.2.contains i) with
      | true =>
        rw [hlo'] at h2 hcnt
        simp only at h2
        have hn:XhK fx l listed=nF fx l i:=by
          apply List.countP_congr
          intro j hj
          have hjl:j < l.length:=List.mem_range.1 hj
          have hjo:l[j]?=some l[j]:=List.getElem?_eq_getElem hjl
          cases hla2:XdA fx l j with
          | false=>simp
          | true =>
            have hlj:((Xq l[j] || fx.2.contains j) && !fx.1.contains j)=true:=by simpa [XdA,XaT,hjo] using hla2
            have hli:((Xq o || fx.2.contains i) && !fx.1.contains i)=true:=by rw [hlo',hfi];rfl
            simp only [Bool.true_and,decide_eq_true_eq]
            constructor
            · intro hlj2
              rcases Nat.lt_trichotomy j i with h | h | h
              · exact h
              · rw [h,hif] at hlj2;cases hlj2
              · have:=hbefo j (ho.loud i j o l[j] h hil hjo hli hlj)
                rw [this] at hlj2;cases hlj2
            · intro h
              exact hbefi j (ho.loud j i l[j] o h hjo hil hlj hli) (by omega)
        refine h2 rd m w a _ _ (by rw [← hn];exact hR) hev fun v m' w' h3 h4 h5=>fin v m' w' h3 ?_ h5
        rw [hcnt,hn];simpa using h4
      | false =>
        rw [hlo'] at h2 hcnt
        simp only at h2
        refine h2 _ hlo hhi rd m w a _ _ hR hev fun v m' w' h3 h4 h5=>fin v m' w' h3 ?_ h5
        rw [hcnt];simpa using h4
    | some jw =>
      obtain ⟨j,want⟩:=jw
      rw [hg] at h2
      simp only at h2
      obtain ⟨b,oj,hvj,hjl,hjd,h3,h4⟩:=h2
      obtain ⟨g1,g2,g3⟩:=ho.guard i j o want hil hg
      have hlj:=hbefi j g1 (by omega)
      obtain ⟨dj,hdj⟩:=Option.isSome_iff_exists.1 hjd
      have hrj:=hr1 j oj dj _ hlj hjl hdj hvj
      have he:a.tmps.getD dj undef=.bool b:=XJ hrj
      have hdn:dj < a.tmps.size:=by
        rcases Nat.lt_or_ge dj a.tmps.size with h | h
        · exact h
        · rw [Array.getD_eq_getD_getElem?,Array.getElem?_eq_none h] at he;simp [undef] at he
      have hy:yielded l.toArray a.tmps j=some b:=by
        have:a.tmps[dj]?=some (.bool b):=by
          rw [Array.getD_eq_getD_getElem?,Array.getElem?_eq_getElem hdn] at he
          rw [Array.getElem?_eq_getElem hdn]
          simpa using he
        simp [yielded,hjl,hdj,this]
      rw [g3] at hcnt
      by_cases e:b=want
      · have hw:Region.wanted o (yielded l.toArray a.tmps)=true:=by simp [Region.wanted,hg,hy,e]
        rw [if_pos hw]
        refine h3 e _ hlo hhi rd m w a _ _ hR hev fun v m' w' h5 h6 h7=>fin v m' w' h5 ?_ h7
        rw [hcnt];simpa using h6
      · have hw:Region.wanted o (yielded l.toArray a.tmps)=false:=by simp [Region.wanted,hg,hy,e]
        rw [hw,if_neg (by simp)]
        have hpu:=h4 e
        subst hpu
        refine ⟨fun f _=>Xb6 rd f,fin undef m w (Le.refl m w) ?_ (.v _ rfl)⟩
        rw [hcnt];simpa using hR
theorem XmG (ho:DrawOkF fx l) (hgid:∀ j,fx.1.contains j=true→m0.top≤gid j∧gid j < mt) (hinj:∀ i j,fx.1.contains i=true→fx.1.contains j=true→gid i=gid j→i=j) (hmt:m0.top≤mt)
    (hv:vals.length=l.length) (hf:∀ (i:Nat) (o:Oper) (p:PV),l[i]?=some o→vals[i]?=some p→DFF P n fx gid l vals Hs E0 i o p) {Q:Exit→Act→World→Prop}
    (hQ:∀ listed a w,InvF n fx gid mt l vals Hs E0 m0 w0 listed a w→(∀ i,i < l.length→listed.getD i false=true)→Q .normal a w) :
    ∀ (fuel:Nat) (listed:Array Bool) (a:Act) (w:World),InvF n fx gid mt l vals Hs E0 m0 w0 listed a w→((List.range l.length).countP fun i=>!listed.getD i false)≤fuel→wpAnyIn (fen rd) 0 P .any l.toArray Q fuel listed a w
  | 0,listed,a,w,hI,hc=>by
    have hall:∀ i,i < l.length→listed.getD i false=true:=fun i hi=>by
      have:=List.countP_eq_zero.1 (Nat.le_zero.1 hc) i (List.mem_range.2 hi)
      simpa using this
    refine ⟨?_,hQ listed a w hI hall⟩
    cases hr:Region.ready .any l.toArray listed with
    | nil=>rfl
    | cons i r =>
      have hm:i ∈ Region.ready .any l.toArray listed:=by rw [hr];simp
      obtain ⟨h1,o,h2,_⟩:=mem_ready.1 hm
      have hlt:i < l.length:=by simpa using (Array.getElem?_eq_some_iff.1 h2).1
      have:=hall i hlt
      rw [XaD h1] at this;cases this
  | fuel+1,listed,a,w,hI,hc=>by
    refine ⟨fun hr=>hQ listed a w hI (Xhr ho hI.size hr),fun i hi=>?_⟩
    refine Xpy ho hgid hinj hmt hv hf hI hi fun a' w' hI'=>XmG ho hgid hinj hmt hv hf hQ fuel _ a' w' hI' ?_
    obtain ⟨h1,o,h2,_⟩:=mem_ready.1 hi
    have hlt:i < l.length:=by simpa using (Array.getElem?_eq_some_iff.1 h2).1
    have hif:=XaD h1
    have hlen:=hI.size
    have hget:∀ j,(listed.setIfInBounds i true).getD j false=(listed.getD j false || decide (j=i)):=fun j=>by
      by_cases e:i=j
      · subst e;simp [Array.getD_eq_getD_getElem?,hlen,hlt]
      · rw [getD_set_ne false e];simp [Ne.symm e]
    have key:∀ (r:List Nat),r.Nodup→i ∈ r→(r.countP fun j=>!(listed.setIfInBounds i true).getD j false)+1=r.countP fun j=>!listed.getD j false:=by
      intro r
      induction r with
      | nil=>intro _ h;cases h
      | cons x r ih =>
        intro hnd hmem
        rw [List.nodup_cons] at hnd
        rw [List.countP_cons,List.countP_cons]
        by_cases e:x=i
        · subst e
          have hrest:(r.countP fun j=>!(listed.setIfInBounds x true).getD j false)=r.countP fun j=>!listed.getD j false:=by
            apply List.countP_congr
            intro j hj
            have:j≠x:=fun e=>hnd.1 (e ▸ hj)
            rw [hget];simp [this]
          rw [hrest,hget,hif]
          simp
        · have hm:i ∈ r:=by
            rcases List.mem_cons.1 hmem with h | h
            · exact absurd h.symm e
            · exact h
          have:=ih hnd.2 hm
          have e2:(!(listed.getD x false || decide (x=i)))=!listed.getD x false:=by simp [e]
          rw [hget,e2]
          omega
    have:=key _ List.nodup_range (List.mem_range.2 hlt)
    omega
theorem XpD {m:Mp} {w:World}:∀ (bs:List Blk) (H:Xi),R m H w→R m (H++bs.map some) w
  | [],H,h=>by simpa using h
  | b::bs,H,h=>by
    have:=XpD bs (H++[some b]) (h.ghost b)
    simpa using this
theorem Xot {Q:QA} {id:Nat} {H0:Xi} (bs:List Blk) (hm:P.follows .mixedOrders=true) (hB:XeK fx l=true) (hgid:∀ j,fx.1.contains j=true→H0.length≤gid j∧gid j < H0.length+bs.length)
    (hinj:∀ i j,fx.1.contains i=true→fx.1.contains j=true→gid i=gid j→i=j) (h0:Hs 0=H0++bs.map some) (hv:vals.length=l.length)
    (hf:∀ (i:Nat) (o:Oper) (p:PV),l[i]?=some o→vals[i]?=some p→DFF P n fx gid l vals Hs E0 i o p)
    (k:Q .normal (X3 l vals E0) (Hs (nF fx l l.length))):wpA P n (.region id l.toArray true) Q E0 H0:=by
  rintro rd m1 w1 a w ⟨h1,h2,m,h3,h4,h5⟩
  have ho:=Xqf hB
  have h4':=h4.drew
  refine wpIn_region_any hm ?_
  have hcnt0:XhK fx l (Array.replicate l.length false)=0:=by
    unfold XhK
    rw [List.countP_eq_zero]
    intro i _
    rw [Xbf]
    simp
  have htop:m1.top=m.top:=h3.top.symm
  have hle0:m.top≤H0.length:=h4.top
  have hlenH:(Hs 0).length=H0.length+bs.length:=by rw [h0];simp
  have hR0:R { m with top:=H0.length+bs.length } (Hs 0) w.drew:=by
    have:=XpD bs H0 h4'.1
    rw [← h0] at this
    exact this.retop (by omega)
  refine XmG (Hs:=Hs) (E0:=E0) (m0:=m1) (w0:=w1) (mt:=H0.length+bs.length) ho (fun j hj=>⟨by have:=(hgid j hj).1;omega,(hgid j hj).2⟩) hinj (by omega) hv hf (fun listed a' w' hI hall=>?_) _ _ a w.drew
    ⟨by simp,fun i o hi hl=>?_,h1,{ m with top:=H0.length+bs.length },rfl,?_,by simpa [hcnt0] using hR0,fun j o d p hl=>?_,fun t p ht _=>((h5 t p ht).mono h4.rk h4'.2).retop _,fun j hj _=>?_⟩ ?_
  · obtain ⟨m',g0,g1,g2,g3,g4,_⟩:=hI.rel
    have hlast:XhK fx l listed=nF fx l l.length:=by
      apply List.countP_congr
      intro j hj
      have hjl:=List.mem_range.1 hj
      simp [hall j hjl,hjl]
    refine ⟨_,_,k,hI.tmps,h2,{ m' with top:=m1.top },g1,?_,fun t p ht=>?_⟩
    · rw [← hlast]
      refine g2.retop ?_
      have:=g2.top
      omega
    · refine Rep.retop _ ?_
      rcases Xbk l vals E0 t p ht with ⟨j,oj,e1,e2,e3,e4⟩ | ⟨e1,e2⟩
      · exact g3 j oj t p (hall j (by omega)) e2 e3 e4
      · exact g4 t p e1 fun j oj _ hjl=>e2 j oj (by have:=(List.getElem?_eq_some_iff.1 hjl).1;omega) hjl
  · rw [Xbf] at hl;cases hl
  · have h6:=h3.trans h4'.2
    have e:({ m with top:=m1.top }:Mp)=m:=by rw [htop]
    show LeD m1 w1 { m with top:=m1.top } w.drew a.defers
    rw [e];exact h6
  · rw [Xbf] at hl;cases hl
  · have hge:=(hgid j hj).1
    cases hmb:m.blk (gid j) with
    | none=>rfl
    | some x=>have:=h4.dom _ x hmb;omega
  · simp only [List.size_toArray]
    refine ZbM ?_
    simp
end
def DAF (P:Program) (n:Nat) (fx:List Nat × List Nat) (gid:Nat→Nat) (l:List Oper) (vals:List PV) (Hs:Nat→Xi):Nat→List Oper→List PV→Env→Prop
  | i,o::os,p::ps,E =>
    ((∀ d,o.dst=some d→d < n) ∧
      match fx.1.contains i with
      | true=>o.guard=none∧o.dst.isSome=true∧∃ B,OpF P o (XK o E) (gid i) B p∧∀ k,loF fx l i≤k→k≤hiF fx l i→(Hs k)[gid i]?=some (some B)
      | false=>match o.guard with
        | none=>match (Xq o || fx.2.contains i) with
          | true=>OpK P o (XK o E) (Hs (nF fx l i)) p (Hs (nF fx l i+1))
          | false=>∀ k,loF fx l i≤k→k≤hiF fx l i→OpK P o (XK o E) (Hs k) p (Hs k)
        | some (j,want)=>∃ b oj,vals[j]?=some (.v (.bool b))∧l[j]?=some oj∧oj.dst.isSome=true ∧
          (b=want→∀ k,loF fx l i≤k→k≤hiF fx l i→OpK P o (XK o E) (Hs k) p (Hs k))∧(b≠want→p=.v undef)) ∧
    DAF P n fx gid l vals Hs (i+1) os ps (match o.dst with | some d=>(d,p)::E | none=>E)
  | _,[],[],_=>True
  | _,_,_,_=>False
theorem DAF.facts {P:Program} {n:Nat} {fx:List Nat × List Nat} {gid:Nat→Nat} {l:List Oper} {vals:List PV} {Hs:Nat→Xi} {E0:Env} (hl:vals.length=l.length):∀ (i:Nat) (os:List Oper) (ps:List PV),l.drop i=os→vals.drop i=ps →
    DAF P n fx gid l vals Hs i os ps (X3 (l.take i) (vals.take i) E0)→∀ (j:Nat) (o:Oper) (p:PV),i≤j→l[j]?=some o→vals[j]?=some p→DFF P n fx gid l vals Hs E0 j o p
  | i,[],ps,h1,_,_,j,o,p,hij,hj,_=>by
    have h2:=congrArg List.length h1
    simp at h2
    have:=(List.getElem?_eq_some_iff.1 hj).1
    omega
  | i,o'::os,[],h1,h2,h,j,o,p,hij,hj,hp=>by simp [DAF] at h
  | i,o'::os,p'::ps,h1,h2,h,j,o,p,hij,hj,hp=>by
    obtain ⟨ha,hb⟩:=h
    have e1:l[i]?=some o':=by have:=congrArg (·[0]?) h1;simpa using this
    have e2:vals[i]?=some p':=by have:=congrArg (·[0]?) h2;simpa using this
    by_cases e:i=j
    · subst e
      rw [e1] at hj;cases hj
      rw [e2] at hp;cases hp
      exact ha
    · have hi:i < l.length:=(List.getElem?_eq_some_iff.1 e1).1
      have t1:l.take (i+1)=l.take i++[o']:=by
        rw [List.take_add_one,e1];rfl
      have t2:vals.take (i+1)=vals.take i++[p']:=by
        rw [List.take_add_one,e2];rfl
      refine DAF.facts hl (i+1) os ps ?_ ?_ ?_ j o p (by omega) hj hp
      · have:=congrArg List.tail h1;simpa using this
      · have:=congrArg List.tail h2;simpa using this
      · rw [t1,t2,XbL _ _ _ _ _ (by simp;omega)]
        exact hb
def DYF (P:Program) (n:Nat) (fx:List Nat × List Nat) (gid:Nat→Nat) (l:List Oper) (Hs:Nat→Xi):Nat→List Oper→List PV→Env→(Env→Prop)→Prop
  | _,[],_,E,K=>K E
  | i,o::os,acc,E,K=>∃ p,((∀ d,o.dst=some d→d < n) ∧
      match fx.1.contains i with
      | true=>o.guard=none∧o.dst.isSome=true∧∃ B,OpF P o (XK o E) (gid i) B p∧∀ k,loF fx l i≤k→k≤hiF fx l i→(Hs k)[gid i]?=some (some B)
      | false=>match o.guard with
        | none=>match (Xq o || fx.2.contains i) with
          | true=>OpK P o (XK o E) (Hs (nF fx l i)) p (Hs (nF fx l i+1))
          | false=>∀ k,loF fx l i≤k→k≤hiF fx l i→OpK P o (XK o E) (Hs k) p (Hs k)
        | some (j,want)=>∃ b oj,j < i∧acc[i - 1 - j]?=some (.v (.bool b))∧l[j]?=some oj∧oj.dst.isSome=true ∧
            (b=want→∀ k,loF fx l i≤k→k≤hiF fx l i→OpK P o (XK o E) (Hs k) p (Hs k))∧(b≠want→p=.v undef)) ∧
    DYF P n fx gid l Hs (i+1) os (p::acc) (match o.dst with | some d=>(d,p)::E | none=>E) K
theorem DYF.all {P:Program} {n:Nat} {fx:List Nat × List Nat} {gid:Nat→Nat} {l:List Oper} {Hs:Nat→Xi} {K:Env→Prop}:∀ (os:List Oper) (i:Nat) (acc:List PV) (E:Env),acc.length=i→DYF P n fx gid l Hs i os acc E K →
    ∃ ps,ps.length=os.length∧DAF P n fx gid l (acc.reverse++ps) Hs i os ps E∧K (X3 os ps E)
  | [],i,acc,E,_,h=>⟨[],rfl,trivial,h⟩
  | o::os,i,acc,E,hl,⟨p,⟨h1,h2⟩,h3⟩=>by
    obtain ⟨ps,hps,hd,hk⟩:=DYF.all os (i+1) (p::acc) _ (by simp [hl]) h3
    refine ⟨p::ps,by simp [hps],⟨⟨h1,?_⟩,?_⟩,hk⟩
    · cases hf:fx.1.contains i with
      | true=>rw [hf] at h2;exact h2
      | false =>
        rw [hf] at h2
        simp only at h2 ⊢
        cases hg:o.guard with
        | none=>rw [hg] at h2;exact h2
        | some jw =>
          rw [hg] at h2
          obtain ⟨b,oj,e0,e1,e2⟩:=h2
          refine ⟨b,oj,?_,e2⟩
          rw [List.getElem?_append_left (by simp;omega),List.getElem?_reverse (by omega),hl]
          exact e1
    · rw [List.reverse_cons,List.append_assoc] at hd
      exact hd
theorem Xmd {P:Program} {n:Nat} {fx:List Nat × List Nat} {gid:Nat→Nat} {l:List Oper} {E0:Env} {Q:QA} {id:Nat} {H0:Xi} (bs:List Blk) (L:List Xi) (G':Xi) {N:Nat} (hm:P.follows .mixedOrders=true) (hB:XeK fx l=true)
    (hgid:∀ j,fx.1.contains j=true→H0.length≤gid j∧gid j < H0.length+bs.length) (hinj:∀ i j,fx.1.contains i=true→fx.1.contains j=true→gid i=gid j→i=j)
    (hN:nF fx l l.length=N) (hG:hsL ((H0++bs.map some)::L) N=G') (h:DYF P n fx gid l (hsL ((H0++bs.map some)::L)) 0 l [] E0 (fun E=>Q .normal E G')):wpA P n (.region id l.toArray true) Q E0 H0:=by
  subst hN
  subst hG
  obtain ⟨ps,hl,hd,hk⟩:=DYF.all l 0 [] E0 rfl h
  exact Xot (Hs:=hsL ((H0++bs.map some)::L)) bs hm hB hgid hinj rfl hl (fun i o p hi hp=>DAF.facts hl 0 l ps rfl rfl (by simpa [X3] using hd) i o p (Nat.zero_le _) hi hp) hk
theorem Xtv {P:Program} {n:Nat} {l:List Oper} {E0:Env} {Q:QA} {id:Nat} {H0:Xi} {L0:List (Nat × Blk)} (i1:Nat) (B1:Blk) {N:Nat} (hG0:Has H0 L0) (hm:P.follows .mixedOrders=true) (hB:XeK ([i1],[]) l=true) (hN:nF ([i1],[]) l l.length=N)
    (h:∀ (g1:Nat) (G:Xi),Has G ((g1,B1)::L0)→∃ (L:List Xi) (G':Xi),hsL (G::L) N=G'∧DYF P n ([i1],[]) (fun _=>g1) l (hsL (G::L)) 0 l [] E0 (fun E=>Q .normal E G')):wpA P n (.region id l.toArray true) Q E0 H0:=by
  obtain ⟨L,G',h1,h2⟩:=h H0.length (H0++[some B1]) (hG0.new B1)
  exact Xmd (fx:=([i1],[])) (gid:=fun _=>H0.length) [B1] L G' hm hB (fun j hj=>by simp) (fun i j hi hj _=>by simp at hi hj;omega) hN h1 h2
theorem Xmc {P:Program} {n:Nat} {l:List Oper} {E0:Env} {Q:QA} {id:Nat} {H0:Xi} {L0:List (Nat × Blk)} (i1:Nat) (lx:List Nat) (B1:Blk) {N:Nat} (hG0:Has H0 L0) (hm:P.follows .mixedOrders=true) (hB:XeK ([i1],lx) l=true) (hN:nF ([i1],lx) l l.length=N)
    (h:∀ (g1:Nat) (G:Xi),Has G ((g1,B1)::L0)→∃ (L:List Xi) (G':Xi),hsL (G::L) N=G'∧DYF P n ([i1],lx) (fun _=>g1) l (hsL (G::L)) 0 l [] E0 (fun E=>Q .normal E G')):wpA P n (.region id l.toArray true) Q E0 H0:=by
  obtain ⟨L,G',h1,h2⟩:=h H0.length (H0++[some B1]) (hG0.new B1)
  exact Xmd (fx:=([i1],lx)) (gid:=fun _=>H0.length) [B1] L G' hm hB (fun j hj=>by simp) (fun i j hi hj _=>by simp at hi hj;omega) hN h1 h2
theorem XhT {P:Program} {n:Nat} {l:List Oper} {E0:Env} {Q:QA} {id:Nat} {G:Xi} (lx:List Nat) (L:List Xi) (G':Xi) {N:Nat} (hm:P.follows .mixedOrders=true) (hB:XeK ([],lx) l=true) (hN:nF ([],lx) l l.length=N) (hG:hsL (G::L) N=G')
    (h:DYF P n ([],lx) (fun _=>0) l (hsL (G::L)) 0 l [] E0 (fun E=>Q .normal E G')):wpA P n (.region id l.toArray true) Q E0 G:=by
  have e:G++([]:List Blk).map some=G:=by simp
  refine Xmd (fx:=([],lx)) (gid:=fun _=>0) [] L G' hm hB (fun j hj=>by simp at hj) (fun i j hi hj _=>by simp at hi) hN ?_ ?_
  · rw [e];exact hG
  · rw [e];exact h
theorem Xtu {P:Program} {n:Nat} {l:List Oper} {E0:Env} {Q:QA} {id:Nat} {H0:Xi} {L0:List (Nat × Blk)} (i1 i2:Nat) (B1 B2:Blk) {N:Nat} (hG0:Has H0 L0) (hm:P.follows .mixedOrders=true) (hne:Nat.beq i1 i2=false) (hB:XeK ([i1,i2],[]) l=true) (hN:nF ([i1,i2],[]) l l.length=N)
    (h:∀ (g1 g2:Nat) (G:Xi),Has G ((g2,B2)::(g1,B1)::L0)→∃ (L:List Xi) (G':Xi),hsL (G::L) N=G'∧DYF P n ([i1,i2],[]) (fun i=>match Nat.beq i i1 with | true=>g1 | false=>g2) l (hsL (G::L)) 0 l [] E0 (fun E=>Q .normal E G')):wpA P n (.region id l.toArray true) Q E0 H0:=by
  obtain ⟨L,G',h1,h2⟩:=h H0.length (H0++[some B1]).length (H0++[some B1]++[some B2]) ((hG0.new B1).new B2)
  have hne:i1≠i2:=fun e=>by rw [e] at hne;simp at hne
  have eH:H0++[some B1]++[some B2]=H0++[B1,B2].map some:=by simp
  rw [eH] at h1 h2
  refine Xmd (fx:=([i1,i2],[])) (gid:=fun i=>match Nat.beq i i1 with | true=>H0.length | false=>(H0++[some B1]).length) [B1,B2] L G' hm hB (fun j hj=>?_) (fun i j hi hj e=>?_) hN h1 h2
  · simp only [List.length_append,List.length_cons,List.length_nil]
    cases Nat.beq j i1 <;> simp
  · simp only [List.contains_eq_mem,List.mem_cons,List.not_mem_nil,or_false,decide_eq_true_eq] at hi hj
    rcases hi with rfl | rfl <;> rcases hj with rfl | rfl
    · rfl
    · have:Nat.beq j i=false:=by cases hb:Nat.beq j i with | false=>rfl | true=>exact absurd (Nat.eq_of_beq_eq_true hb).symm hne
      simp [this] at e
    · have:Nat.beq i j=false:=by cases hb:Nat.beq i j with | false=>rfl | true=>exact absurd (Nat.eq_of_beq_eq_true hb).symm hne
      simp [this] at e
    · rfl
section
variable {P:Program} {n:Nat} {fx:List Nat × List Nat} {gid:Nat→Nat} {l:List Oper} {acc:List PV} {Hs:Nat→Xi} {i:Nat} {o:Oper} {os:List Oper} {p:PV} {E:Env} {d:Nat} {K:Env→Prop}
theorem XAQ {K:Env→Xi→Prop} {Q:QA} {H:Xi} (h:K E H):DYF P n fx gid l Hs i [] acc E (fun E=>XeC K Q .normal E H):=h
theorem F_k (hf:fx.1.contains i=false) (hg:o.guard=none) (hl:(Xq o || fx.2.contains i)=false) (hd:o.dst=some d) (hn:d < n) (h:∀ G,OpK P o (XK o E) G p G) (k:DYF P n fx gid l Hs (i+1) os (p::acc) ((d,p)::E) K):DYF P n fx gid l Hs i (o::os) acc E K:=by
  refine ⟨p,⟨fun d' hd'=>by rw [hd] at hd';cases hd';exact hn,?_⟩,by rw [hd];exact k⟩
  rw [hf,hg,hl]
  exact fun c _ _=>h (Hs c)
theorem F_v (hf:fx.1.contains i=false) (hg:o.guard=none) (hl:(Xq o || fx.2.contains i)=false) (hd:o.dst=some d) (hn:d < n) (h:∀ G,OpV P o (XK o E) G p) (k:DYF P n fx gid l Hs (i+1) os (p::acc) ((d,p)::E) K):DYF P n fx gid l Hs i (o::os) acc E K :=
  F_k hf hg hl hd hn (fun G=>(h G).K) k
theorem F_r (lo hi:Nat) (hf:fx.1.contains i=false) (h1:loF fx l i=lo) (h2:hiF fx l i=hi) (hg:o.guard=none) (hl:(Xq o || fx.2.contains i)=false) (hd:o.dst=some d) (hn:d < n) (h:∀ k,lo≤k→k≤hi→OpV P o (XK o E) (Hs k) p)
    (k:DYF P n fx gid l Hs (i+1) os (p::acc) ((d,p)::E) K):DYF P n fx gid l Hs i (o::os) acc E K:=by
  refine ⟨p,⟨fun d' hd'=>by rw [hd] at hd';cases hd';exact hn,?_⟩,by rw [hd];exact k⟩
  rw [hf,hg,hl]
  intro c hc1 hc2
  exact (h c (by omega) (by omega)).K
theorem F_w {H H':Xi} (c:Nat) (hf:fx.1.contains i=false) (hc:nF fx l i=c) (h1:Hs c=H) (hg:o.guard=none) (hl:(Xq o || fx.2.contains i)=true) (hd:o.dst=some d) (hn:d < n) (h:OpW P o (XK o E) H p H') (h2:Hs (c+1)=H')
    (k:DYF P n fx gid l Hs (i+1) os (p::acc) ((d,p)::E) K):DYF P n fx gid l Hs i (o::os) acc E K:=by
  refine ⟨p,⟨fun d' hd'=>by rw [hd] at hd';cases hd';exact hn,?_⟩,by rw [hd];exact k⟩
  rw [hf,hg,hl,hc,h1,h2]
  exact h.K
theorem F_s {H H':Xi} (c:Nat) (hf:fx.1.contains i=false) (hc:nF fx l i=c) (h1:Hs c=H) (hg:o.guard=none) (hl:(Xq o || fx.2.contains i)=true) (hd:o.dst=none) (h:OpS P o (XK o E) H H') (h2:Hs (c+1)=H')
    (k:DYF P n fx gid l Hs (i+1) os (.v undef::acc) E K):DYF P n fx gid l Hs i (o::os) acc E K:=by
  refine ⟨.v undef,⟨fun d' hd'=>(by rw [hd] at hd';cases hd'),?_⟩,by rw [hd];exact k⟩
  rw [hf,hg,hl,hc,h1,h2]
  exact h.K
theorem F_c {H H':Xi} (c:Nat) (hf:fx.1.contains i=false) (hc:nF fx l i=c) (h1:Hs c=H) (hg:o.guard=none) (hl:(Xq o || fx.2.contains i)=true) (hd:o.dst=some d) (hn:d < n) (h:OpK P o (XK o E) H p H') (h2:Hs (c+1)=H')
    (k:DYF P n fx gid l Hs (i+1) os (p::acc) ((d,p)::E) K):DYF P n fx gid l Hs i (o::os) acc E K:=by
  refine ⟨p,⟨fun d' hd'=>by rw [hd] at hd';cases hd';exact hn,?_⟩,by rw [hd];exact k⟩
  rw [hf,hg,hl,hc,h1,h2]
  exact h
theorem F_f {g:Nat} {B:Blk} (lo hi:Nat) (hf:fx.1.contains i=true) (hgi:gid i=g) (h1:loF fx l i=lo) (h2:hiF fx l i=hi) (hg:o.guard=none) (hd:o.dst=some d) (hn:d < n) (h:OpF P o (XK o E) g B p) (hB:∀ k,lo≤k→k≤hi→(Hs k)[g]?=some (some B))
    (k:DYF P n fx gid l Hs (i+1) os (p::acc) ((d,p)::E) K):DYF P n fx gid l Hs i (o::os) acc E K:=by
  refine ⟨p,⟨fun d' hd'=>by rw [hd] at hd';cases hd';exact hn,?_⟩,by rw [hd];exact k⟩
  rw [hf,hgi]
  exact ⟨hg,by rw [hd];rfl,B,h,fun c hc1 hc2=>hB c (by omega) (by omega)⟩
end
end Go.Th
namespace Go.Th
open Go.RowKit
structure KeyOk {K:Type} [DecidableEq K] (kd:TypeDesc) (ky:K→Value):Prop where
  same:∀ a b,Instr.sameNow kd (ky a) (ky b)=some (decide (a=b))
  chk:∀ (P:Program) (kt:TypeId) (b:Bool) (w:World) (a:K),P.underlying kt=some kd→(Instr.checkKey b 10000 kt (ky a)).run P w=.ok () w
  bits:∀ a,Instr.sameBits 10000 (ky a) (ky a)=true
  na:∀ a,Xfd (ky a)=true
theorem XkL (a b:ByteArray):(a == b)=decide (a=b):=by
  obtain ⟨x⟩:=a;obtain ⟨y⟩:=b
  have:((⟨x⟩:ByteArray) == ⟨y⟩)=(x == y):=rfl
  rw [this]
  by_cases h:x=y
  · subst h;simp
  · simp [h]
theorem XAL {P:Program} {kt:TypeId} {kk:IntKind} (hk:P.underlying kt=some (.int kk)) (b:Bool) (w:World) (n:Nat) (a:Int):(Instr.checkKey b (n+1) kt (.int kk a)).run P w=.ok () w:=by
  simp [Instr.checkKey,run_underlying hk]
theorem XAK {P:Program} {kt:TypeId} (hk:P.underlying kt=some .string) (b:Bool) (w:World) (n:Nat) (a:ByteArray):(Instr.checkKey b (n+1) kt (.string a)).run P w=.ok () w:=by
  simp [Instr.checkKey,run_underlying hk]
theorem XcN (kk:IntKind):KeyOk (.int kk) (fun k:Int=>Value.int kk k) :=
  ⟨fun a b=>by simp only [Instr.sameNow,if_true];congr 1,fun P kt b w a hk=>XAL hk b w 9999 a,fun a=>by simp [Instr.sameBits],fun _=>rfl⟩
theorem keyStr:KeyOk .string (fun k:ByteArray=>Value.string k) :=
  ⟨fun a b=>by simp only [Instr.sameNow,XkL],fun P kt b w a hk=>XAK hk b w 9999 a,fun a=>by simp [Instr.sameBits,XkL],fun _=>rfl⟩
def Xmw (w:World) (r:Nat) (o:Obj):World:={ w with heap:=w.heap.setIfInBounds r o }
theorem Xj1 {w:World} {r:Nat} {o:Obj} (h:r < w.heap.size):(Xmw w r o).heap[r]?=some o:=by simp [Xmw,h]
theorem Xh6 {w:World} {r k:Nat} {o:Obj} (h:k≠r):(Xmw w r o).heap[k]?=w.heap[k]?:=by
  simp only [Xmw];exact Array.getElem?_setIfInBounds_ne (fun e=>h e.symm)
theorem Xj0 {w:World} {r:Nat} {o:Obj}:(Xmw w r o).heap.size=w.heap.size:=by simp [Xmw]
abbrev XbA (K:Type):=List (K × PV × Nat)
section
variable {K:Type} [DecidableEq K] {kd:TypeDesc} {ky:K→Value}
def Xim (ky:K→Value) (e:K × PV × Nat):List PV:=[.v (ky e.1),e.2.1,.v (.int .i64 (e.2.2:Nat))]
def Xf1 (ky:K→Value) (es:XbA K) (clock:Nat):List PV:=.v (.int .i64 (clock:Nat))::es.flatMap (Xim ky)
def XU (ky:K→Value) (es:XbA K) (clock:Nat):Blk:=⟨[.fn (.func 0) (Xf1 ky es clock)],0,true⟩
def Xcb (k:K):XbA K→Nat→Option (Nat × PV)
  | [],_=>none
  | e::es,i=>if k=e.1 then some (i,e.2.1) else Xcb k es (i+1)
def Xdk (es:XbA K) (k:K):Option PV:=(Xcb k es 0).map (·.2)
def XhZ:XbA K→Nat→K→PV→XbA K
  | [],_,_,_=>[]
  | e::es,0,k,p=>(k,p,e.2.2)::es
  | e::es,i+1,k,p=>e::XhZ es i k p
def Xf8 (es:XbA K) (clock:Nat) (k:K) (p:PV):XbA K:=match Xcb k es 0 with
  | none=>es++[(k,p,clock)]
  | some (i,_)=>XhZ es i k p
def Xf9 (es:XbA K) (clock:Nat) (k:K):Nat:=match Xcb k es 0 with
  | none=>clock+1
  | some _=>clock
theorem XmN (k:K):∀ (es:XbA K) (i j:Nat) (p:PV),Xcb k es i=some (j,p)→i≤j
  | [],_,_,_,h=>by simp [Xcb] at h
  | e::es,i,j,p,h=>by
    simp only [Xcb] at h
    split at h
    · simp at h;omega
    · have:=XmN k es (i+1) j p h;omega
theorem XdE (k:K):∀ (es:XbA K) (i:Nat),Xcb k es i=(Xcb k es 0).map fun x=>(x.1+i,x.2)
  | [],_=>rfl
  | e::es,i=>by
    simp only [Xcb]
    split
    · simp
    · rw [XdE k es (i+1),XdE k es (0+1)]
      cases Xcb k es 0 <;> simp;omega
theorem Xi3 (k:K):Xdk ([]:XbA K) k=none:=rfl
theorem Xd5 (e:K × PV × Nat) (es:XbA K) (k:K):Xdk (e::es) k=if k=e.1 then some e.2.1 else Xdk es k:=by
  simp only [Xdk,Xcb]
  split
  · rfl
  · rw [XdE];cases Xcb k es 0 <;> rfl
theorem Xr2 (es fs:XbA K) (k:K):Xdk (es++fs) k=(Xdk es k).or (Xdk fs k):=by
  induction es with
  | nil=>simp [Xi3]
  | cons e es ih=>rw [List.cons_append,Xd5,Xd5,ih];split <;> simp
theorem XgV (k k':K) (p q:PV):∀ (es:XbA K) (i:Nat),Xcb k es 0=some (i,q)→Xdk (XhZ es i k p) k'=if k'=k then some p else Xdk es k'
  | [],_,h=>by simp [Xcb] at h
  | e::es,i,h=>by
    simp only [Xcb] at h
    split at h
    · rename_i e1
      simp only [Option.some.injEq,Prod.mk.injEq] at h
      obtain ⟨rfl,rfl⟩:=h
      simp only [XhZ,Xd5,← e1]
      split <;> rfl
    · rename_i e1
      rw [XdE] at h
      cases hf:Xcb k es 0 with
      | none=>rw [hf] at h;simp at h
      | some x =>
        obtain ⟨j,q'⟩:=x
        rw [hf] at h
        simp only [Option.map_some,Option.some.injEq,Prod.mk.injEq] at h
        obtain ⟨rfl,rfl⟩:=h
        simp only [XhZ,Xd5,XgV k k' p q' es j hf]
        by_cases e2:k'=e.1
        · have:k'≠k:=fun e3=>e1 (by rw [← e3,e2])
          rw [if_pos e2,if_neg this,if_pos e2]
        · simp [e2]
theorem Xfi (es:XbA K) (clock:Nat) (k k':K) (p:PV):Xdk (Xf8 es clock k p) k'=if k'=k then some p else Xdk es k':=by
  unfold Xf8
  cases hf:Xcb k es 0 with
  | none =>
    have:Xdk es k=none:=by rw [Xdk,hf];rfl
    simp only [Xr2,Xd5,Xi3]
    by_cases e:k'=k
    · subst e;simp [this]
    · simp [e]
  | some x=>exact XgV k k' p x.2 es x.1 hf
inductive EntsRep (ky:K→Value) (m:Mp) (w:World):XbA K→List MapEntry→Prop
  | nil:EntsRep ky m w [] []
  | cons {e:K × PV × Nat} {es:XbA K} {x:MapEntry} {l:List MapEntry} (h1:x.key=ky e.1) (h2:Rep m w e.2.1 x.val) (h3:x.born=e.2.2) (t:EntsRep ky m w es l):EntsRep ky m w (e::es) (x::l)
def Xhb (e:MapEntry):List Value:=[e.key,e.val,.int .i64 (e.born:Nat)]
theorem Xm7 {m:Mp} {w:World}:CR m w [] []:=⟨rfl,fun j c h=>by simp at h⟩
theorem Xcu {m:Mp} {w:World} {p:PV} {v:Value} {ps:List PV} {vs:List Value} (h:Rep m w p v) (k:CR m w ps vs):CR m w (p::ps) (v::vs) :=
  ⟨by simp [k.1],fun j c hj=>by
    cases j with
    | zero=>simp at hj;subst hj;exact ⟨v,rfl,h⟩
    | succ j=>simpa using k.2 j c (by simpa using hj)⟩
theorem Xby {m:Mp} {w:World} {p:PV} {ps:List PV} {l:List Value} (h:CR m w (p::ps) l):∃ v vs,l=v::vs∧Rep m w p v∧CR m w ps vs:=by
  cases l with
  | nil=>have:=h.1;simp at this
  | cons v vs =>
    obtain ⟨u,hu,hr⟩:=h.2 0 p rfl
    simp at hu;subst hu
    exact ⟨v,vs,rfl,hr,by have:=h.1;simpa using this,fun j c hj=>by simpa using h.2 (j+1) c (by simpa using hj)⟩
theorem XmT {m:Mp} {w:World} (hk:KeyOk kd ky) {es:XbA K} {l:List MapEntry} (h:EntsRep ky m w es l):CR m w (es.flatMap (Xim ky)) (l.flatMap Xhb):=by
  induction h with
  | nil=>exact Xm7
  | @cons e es x l h1 h2 h3 t ih =>
    simp only [List.flatMap_cons,Xim,Xhb,List.cons_append,List.nil_append,h1,h3]
    exact Xcu (.v _ (hk.na _)) (Xcu h2 (Xcu (.v _ rfl) ih))
omit [DecidableEq K] in
theorem XmU {m:Mp} {w:World}:∀ (es:XbA K) (l:List MapEntry),CR m w (es.flatMap (Xim ky)) (l.flatMap Xhb)→EntsRep ky m w es l
  | [],[],_=>.nil
  | [],x::l,h=>by have:=h.1;simp [Xhb] at this
  | e::es,[],h=>by have:=h.1;simp [Xim] at this
  | e::es,x::l,h=>by
    simp only [List.flatMap_cons,Xim,Xhb,List.cons_append,List.nil_append] at h
    obtain ⟨_,_,e1,r1,h⟩:=Xby h
    obtain ⟨_,_,e2,r2,h⟩:=Xby h
    obtain ⟨_,_,e3,r3,h⟩:=Xby h
    simp only [List.cons.injEq] at e1
    obtain ⟨rfl,rfl⟩:=e1
    simp only [List.cons.injEq] at e2
    obtain ⟨rfl,rfl⟩:=e2
    simp only [List.cons.injEq] at e3
    obtain ⟨rfl,rfl⟩:=e3
    have a1:x.key=ky e.1:=XJ r1
    have a3:(x.born:Int)=(e.2.2:Nat):=by
      have:Value.int .i64 (x.born:Nat)=Value.int .i64 (e.2.2:Nat):=by
        exact XJ r3
      injection this
    exact .cons a1 r2 (by omega) (XmU es l h)
theorem XfZ {m:Mp} {w:World} {f:Fn} {ps:List PV} {vs:Array Value}:Rep m w (.fn f ps) (.func f #[] vs)↔CR m w ps vs.toList:=by
  constructor
  · intro h
    cases h with
    | fn _ hl h =>
      refine ⟨by simpa using hl,fun j c hj=>?_⟩
      have hlt:j < vs.size:=by rw [hl];exact (List.getElem?_eq_some_iff.1 hj).1
      exact ⟨vs[j],by simp [hlt],by simpa [Array.getD_eq_getD_getElem?,hlt] using h j c hj⟩
  · intro h
    refine .fn vs (by simpa using h.1) fun j c hj=>?_
    obtain ⟨u,hu,hr⟩:=h.2 j c hj
    have hlt:j < vs.size:=by
      have h1:vs.size=ps.length:=by simpa using h.1
      rw [h1];exact (List.getElem?_eq_some_iff.1 hj).1
    simp [hlt] at hu
    subst hu
    simpa [Array.getD_eq_getD_getElem?,hlt] using hr
omit [DecidableEq K] in
theorem Xd2 {m:Mp} {H:Xi} {w:World} (hR:R m H w) {id:Nat} {es:XbA K} {clock:Nat} (hB:H[id]?=some (some (XU ky es clock))) {v:Value} (hr:Rep m w (.mp id) v) :
    ∃ b lim l,v=.map (some b)∧m.blk id=some (b,1,lim)∧lim=1∧w.heap[b]?=some (.map l clock)∧EntsRep ky m w es l.toList:=by
  cases hr with
  | @mp _ b lim hm =>
    obtain ⟨_,⟨cur,⟨l,c',h1,rfl⟩,h2,h3,h4⟩,_⟩:=hR.blk id _ b 1 lim hB hm
    obtain ⟨u,hu,hru,_⟩:=h4 0 (.fn (.func 0) (Xf1 ky es clock)) rfl
    simp at hu
    subst hu
    have hc:=XfZ.1 hru
    simp only [Xf1,Xd3] at hc
    obtain ⟨_,_,e1,r1,hc2⟩:=Xby hc
    clear hc
    simp only [List.cons.injEq] at e1
    obtain ⟨rfl,rfl⟩:=e1
    have a3:(c':Int)=(clock:Nat):=by
      have:Value.int .i64 (c':Nat)=Value.int .i64 (clock:Nat):=XJ r1
      injection this
    have a3:c'=clock:=by omega
    subst a3
    exact ⟨b,lim,l,rfl,hm,by simpa using h2.symm,h1,XmU es l.toList hc2⟩
theorem Xde (hk:KeyOk kd ky) {m:Mp} {w:World} (k:K) {es:XbA K} {l:List MapEntry} (h:EntsRep ky m w es l):∀ (i:Nat),
    (Xcb k es i=none∧Instr.findNow kd (ky k) l i=some none)∨∃ j p v,Xcb k es i=some (j,p)∧Instr.findNow kd (ky k) l i=some (some (j,v))∧Rep m w p v:=by
  induction h with
  | nil=>exact fun i=>.inl ⟨rfl,rfl⟩
  | @cons e es x l h1 h2 h3 t ih =>
    intro i
    simp only [Xcb,Instr.findNow,h1,hk.same]
    by_cases e1:k=e.1
    · simp only [e1,if_true,decide_true]
      exact .inr ⟨i,e.2.1,x.val,rfl,rfl,h2⟩
    · simp only [e1,if_false,decide_false]
      exact ih (i+1)
theorem Xa5 (hk:KeyOk kd ky) {P:Program} {kt:TypeId} (hu:P.underlying kt=some kd) {m:Mp} {w:World} (k:K) {es:XbA K} {l:List MapEntry} (h:EntsRep ky m w es l) :
    (Xcb k es 0=none∧(Instr.findKey kt (ky k) l).run P w=.ok none w)∨∃ j p v,Xcb k es 0=some (j,p)∧(Instr.findKey kt (ky k) l).run P w=.ok (some (j,v)) w∧Rep m w p v:=by
  rcases Xde hk k h 0 with ⟨h1,h2⟩ | ⟨j,p,v,h1,h2,h3⟩
  · exact .inl ⟨h1,by simp [Instr.findKey,run_underlying hu,h2]⟩
  · exact .inr ⟨j,p,v,h1,by simp [Instr.findKey,run_underlying hu,h2],h3⟩
theorem XaP {P:Program} {w:World} {b:Nat} {l:Array MapEntry} {c:Nat} (h:w.heap[b]?=some (.map l c)):(getObj b).run P w=.ok (.map l c) w:=by simp [getObj,Sem.run,h]
theorem Xdp {P:Program} {w:World} {b:Nat} {l:Array MapEntry} {c:Nat} (y:Obj) (h:w.heap[b]?=some (.map l c)):(setObj b y).run P w=.ok () (Xmw w b y):=by simp [setObj,Sem.run,h,Xmw]
end
class HasZ (P:Program) (t:TypeId) (zv:outParam Value):Prop where
  z:∃ i,P.info? t=some i∧i.zero=some zv
theorem HasZ.mk_of {P:Program} {t:TypeId} {zv:Value} {s b:Nat} (h:(P.info? t).map (fun i=>(i.zero,i.size,i.bytes))=some (some zv,s,b)):HasZ P t zv:=by
  cases hi:P.info? t with
  | none=>rw [hi] at h;cases h
  | some i =>
    rw [hi] at h
    simp only [Option.map_some,Option.some.injEq,Prod.mk.injEq] at h
    exact ⟨i,hi,h.1⟩
def zPV:Value→PV
  | .agg vs=>.agg (vs.toList.map PV.v)
  | x=>.v x
theorem Xol {m:Mp} {w:World} {zv:Value} (h:zv.cells.toList.all (fun x=>x.oneCell')=true):Rep m w (zPV zv) zv:=by
  cases zv with
  | agg vs=>exact XkV (vs:=vs) (Xtp (m:=m) (w:=w) (z:=vs.toList) h)
  | _=>exact .v _ rfl
theorem R.newObj {m:Mp} {H:Xi} {w:World} (h:R m H w) (B:Blk) (o:Obj) (d:Nat) (cur:Array Value) (hv:XcT (some o) B.elem cur d) (hlen:B.cells.length≤cur.size) (hown:B.own=true)
    (hr:∀ (j:Nat) (c:PV),B.cells[j]?=some c→∃ v:Value,cur[j]?=some v∧Rep m w c v∧v.oneCell'=true) :
    R { m with blk:=fun i=>if i=H.length then some (w.heap.size,d,cur.size) else m.blk i } (H++[some B]) (w.alloc o) ∧
    Le m w { m with blk:=fun i=>if i=H.length then some (w.heap.size,d,cur.size) else m.blk i } (w.alloc o):=by
  obtain ⟨h1,hle1⟩:=h.alloc_any o
  have hB:Xep m (w.alloc o) B w.heap.size d cur.size:=by
    refine ⟨cur,by rw [heap_alloc_new w o];exact hv,rfl,by simpa using hlen,fun j c hj=>?_⟩
    obtain ⟨v,hv,hr',h1v⟩:=hr j c hj
    exact Zcd
  have h2:=h1.add B hB hown (fun hk=>by
      have:=h.kl _ hk;omega) (fun i C di li hi _ hmi=>by have:=h.lt hi hmi;omega)
  exact ⟨h2.1,hle1.trans h2.2⟩
section
variable {P:Program} {E:Env} {H H':Xi} {o:Oper} {t kt et:TypeId} {K:Type} [DecidableEq K] {kd:TypeDesc} {size bytes:Nat} {z:List Value} {zv:Value}
omit [DecidableEq K] in
theorem Xl2 (ky:K→Value) (ho:o.op=.makeMap t none):OpW P o E H (.mp H.length) (H++[some (XU ky [] 0)]):=fun m w ρ hR hρ=>by
  obtain ⟨a,b⟩:=hR.newObj (XU ky [] 0) (.map #[] 0) 1 #[.func (.func 0) #[] (Xd3 #[] 0)] ⟨_,_,rfl,rfl⟩ (by simp [XU]) rfl (fun j c hj=>by
    cases j with
    | zero =>
      simp [XU] at hj;subst hj
      exact ⟨_,rfl,XfZ.2 (by simpa [Xf1,Xd3] using Xcu (.v _ rfl) Xm7),rfl⟩
    | succ j=>simp [XU] at hj)
  refine ⟨.map (some w.heap.size),_,_,?_,b,a,.mp (b:=w.heap.size) (lim:=1) (by simp)⟩
  simp [execOp,ho,Instr.makeMap]
theorem XcE [hu:HasU P t (.map kt et)] [huk:HasU P kt kd] [hz:HasZ P et zv] {ky:K→Value} (hk:KeyOk kd ky) {x y:Operand} {id:Nat} {k:K} {es:XbA K} {clock:Nat} {r:PV} (ho:o.op=.lookup t x y false) (hx:E.ev x=some (.mp id)) (hy:E.ev y=some (.v (ky k)))
    (hB:H[id]?=some (some (XU ky es clock))) (h1:zv.cells.toList.all (fun x=>x.oneCell')=true) (hr:(Xdk es k).getD (zPV zv)=r):OpV P o E H r:=fun m w ρ hR hρ=>by
  subst hr
  obtain ⟨b,lim,l,e1,hm,_,hh,hents⟩:=Xd2 hR hB (hρ x _ hx)
  have e2:=XJ (hρ y _ hy)
  obtain ⟨i,hi,hzv⟩:=hz.z
  have hck:=hk.chk P kt l.isEmpty w k huk.u
  rcases Xa5 hk huk.u k hents with ⟨g1,g2⟩ | ⟨j,p,v,g1,g2,g3⟩
  · refine ⟨zv,?_,by simpa [Xdk,g1] using Xol h1⟩
    simp [execOp,ho,e1,e2,Instr.lookup,run_underlying hu.u,XaP hh,hck,g2,zeroValue,typeInfo,hi,hzv]
  · refine ⟨v,?_,by simpa [Xdk,g1] using g3⟩
    simp [execOp,ho,e1,e2,Instr.lookup,run_underlying hu.u,XaP hh,hck,g2]
theorem Xf6 [hu:HasU P t (.map kt et)] [huk:HasU P kt kd] [hz:HasZ P et zv] {ky:K→Value} (hk:KeyOk kd ky) {x y:Operand} {id:Nat} {k:K} {es:XbA K} {clock:Nat} {r:PV} (ho:o.op=.lookup t x y true) (hx:E.ev x=some (.mp id)) (hy:E.ev y=some (.v (ky k)))
    (hB:H[id]?=some (some (XU ky es clock))) (h1:zv.cells.toList.all (fun x=>x.oneCell')=true) (hr:(Xdk es k).getD (zPV zv)=r):OpV P o E H (.tup [r,.v (.bool (Xdk es k).isSome)]):=fun m w ρ hR hρ=>by
  subst hr
  obtain ⟨b,lim,l,e1,hm,_,hh,hents⟩:=Xd2 hR hB (hρ x _ hx)
  have e2:=XJ (hρ y _ hy)
  obtain ⟨i,hi,hzv⟩:=hz.z
  have hck:=hk.chk P kt l.isEmpty w k huk.u
  have pair:∀ {p:PV} {v:Value} {b:Bool},Rep m w p v→Rep m w (.tup [p,.v (.bool b)]) (.tuple #[v,.bool b]):=fun h=>.tup _ rfl fun j c hj=>by
    match j with
    | 0=>simp at hj;subst hj;exact h
    | 1=>simp at hj;subst hj;exact .v _ rfl
    | j+2=>simp at hj
  rcases Xa5 hk huk.u k hents with ⟨g1,g2⟩ | ⟨j,p,v,g1,g2,g3⟩
  · refine ⟨.tuple #[zv,.bool false],?_,by simpa [Xdk,g1] using pair (Xol h1)⟩
    simp [execOp,ho,e1,e2,Instr.lookup,run_underlying hu.u,XaP hh,hck,g2,zeroValue,typeInfo,hi,hzv]
  · refine ⟨.tuple #[v,.bool true],?_,by simpa [Xdk,g1] using pair g3⟩
    simp [execOp,ho,e1,e2,Instr.lookup,run_underlying hu.u,XaP hh,hck,g2]
omit [DecidableEq K] in
theorem Xqb {m:Mp} {w:World} {ky:K→Value} {es:XbA K} {l:List MapEntry} (h:EntsRep ky m w es l) {e:K × PV × Nat} {x:MapEntry} (h1:x.key=ky e.1) (h2:Rep m w e.2.1 x.val) (h3:x.born=e.2.2):EntsRep ky m w (es++[e]) (l++[x]):=by
  induction h with
  | nil=>exact .cons h1 h2 h3 .nil
  | cons a b c t ih=>exact .cons a b c ih
theorem Xr9 {m:Mp} {w:World} {ky:K→Value} {k:K} {p q:PV} {v:Value} (hr:Rep m w p v) {es:XbA K} {l:List MapEntry} (h:EntsRep ky m w es l):∀ (i s:Nat),Xcb k es s=some (i+s,q) →
    EntsRep ky m w (XhZ es i k p) (l.modify i fun e=>{ e with key:=ky k,val:=v })∧∃ x,l[i]?=some x∧x.key=ky k:=by
  induction h with
  | nil=>intro i s h;simp [Xcb] at h
  | @cons e es x l h1 h2 h3 t ih =>
    intro i s h
    simp only [Xcb] at h
    split at h
    · rename_i e1
      simp only [Option.some.injEq,Prod.mk.injEq] at h
      have:i=0:=by omega
      subst this
      exact ⟨.cons rfl hr h3 t,x,rfl,by rw [h1,e1]⟩
    · cases i with
      | zero=>have:=XmN k es (s+1) _ _ h;omega
      | succ i =>
        obtain ⟨a,x',hx',hk'⟩:=ih i (s+1) (by rw [h];congr 2;omega)
        exact ⟨.cons h1 h2 h3 a,x',by simpa using hx',hk'⟩
theorem XcC [hu:HasU P t (.map kt et)] [huk:HasU P kt kd] {ky:K→Value} (hk:KeyOk kd ky) {x y z:Operand} {id:Nat} {k:K} {p:PV} {es:XbA K} {clock:Nat} (ho:o.op=.mapUpdate t x y z) (hx:E.ev x=some (.mp id)) (hy:E.ev y=some (.v (ky k))) (hz:E.ev z=some p)
    (hB:H[id]?=some (some (XU ky es clock))):OpS P o E H (H.set id (some (XU ky (Xf8 es clock k p) (Xf9 es clock k)))):=fun m w ρ hR hρ=>by
  obtain ⟨b,lim,l,e1,hm,hlim,hh,hents⟩:=Xd2 hR hB (hρ x _ hx)
  have e2:=XJ (hρ y _ hy)
  have hp:=hρ z _ hz
  have hck:=hk.chk P kt false w k huk.u
  have hlt:b < w.heap.size:=(Array.getElem?_eq_some_iff.1 hh).1
  have turn:∀ (l':Array MapEntry) (c':Nat),EntsRep ky m w (Xf8 es clock k p) l'.toList→c'=Xf9 es clock k →
      R m (H.set id (some (XU ky (Xf8 es clock k p) (Xf9 es clock k)))) (Xmw w b (.map l' c'))∧Le m w m (Xmw w b (.map l' c')):=fun l' c' hl' hc'=>by
    subst hc'
    refine hR.rewrite (w':=Xmw w b (.map l' (Xf9 es clock k))) hB rfl hm (cur':=#[.func (.func 0) #[] (Xd3 l' (Xf9 es clock k))]) (cs:=[.fn (.func 0) (Xf1 ky (Xf8 es clock k p) (Xf9 es clock k))])
      Xj0 rfl rfl rfl (fun j hj=>Xh6 hj) ⟨_,_,Xj1 hlt,rfl⟩ (by simp [hlim]) (by simp [hlim]) (fun j c hj=>?_)
    cases j with
    | zero =>
      simp at hj;subst hj
      exact ⟨_,rfl,XfZ.2 (show CR m w (Xf1 ky (Xf8 es clock k p) (Xf9 es clock k)) (Xd3 l' (Xf9 es clock k)).toList from Xcu (.v _ rfl) (XmT hk hl')),rfl⟩
    | succ j=>simp at hj
  rcases Xa5 hk huk.u k hents with ⟨g1,g2⟩ | ⟨j,q,v,g1,g2,g3⟩
  · obtain ⟨r1,r2⟩:=turn (l.push { key:=ky k,val:=ρ z,born:=clock }) (clock+1) (by simpa [Xf8,g1] using Xqb hents (e:=(k,p,clock)) rfl hp rfl) (by simp [Xf9,g1])
    refine ⟨m,_,?_,r2,r1⟩
    have hso:=Xdp (P:=P) (.map (l.push { key:=ky k,val:=ρ z,born:=clock }) (clock+1)) hh
    simp only [execOp,ho,e1,e2,Instr.mapUpdate,Sem.run_bind,run_underlying hu.u,Result.andThen_ok,XaP hh,hck,g2,hso,Sem.run_pure]
  · obtain ⟨a,x',hx',hkx⟩:=Xr9 hp hents j 0 g1
    have hmod:(l.modify j fun e=>{ e with key:=ky k,val:=ρ z }).toList=l.toList.modify j fun e=>{ e with key:=ky k,val:=ρ z }:=by simp
    obtain ⟨r1,r2⟩:=turn (l.modify j fun e=>{ e with key:=ky k,val:=ρ z }) clock (by rw [hmod];simpa [Xf8,g1] using a) (by simp [Xf9,g1])
    refine ⟨m,_,?_,r2,r1⟩
    have hso:=Xdp (P:=P) (.map (l.modify j fun e=>{ e with key:=ky k,val:=ρ z }) clock) hh
    have hx'':l[j]?=some x':=by simpa using hx'
    have hst:(Instr.keyThatStays x'.key (ky k)).run P w=.ok (ky k) w:=by rw [hkx];simp [Instr.keyThatStays,hk.bits]
    simp only [execOp,ho,e1,e2,Instr.mapUpdate,Sem.run_bind,run_underlying hu.u,Result.andThen_ok,XaP hh,hck,g2,hx'',Option.map_some,Option.getD_some,hst,hso,Sem.run_pure]
omit [DecidableEq K] in
end
section
variable {P:Program} {n:Nat} {Q:QA} {E:Env} {H:Xi} {ops:Array Oper} {rest:List Oper} {o:Oper} {t kt et:TypeId} {d:Nat} {L:List (Nat × Blk)} {id:Nat} {K:Type} [DecidableEq K] {kd:TypeDesc}
omit [DecidableEq K] in
theorem XiC (ky:K→Value) (hG:Has H L) (hg:o.guard=none) (hd:o.dst=some d) (hn:d < n) (ho:o.op=.makeMap t none)
    (h:∀ id G,Has G ((id,XU ky [] 0)::L)→wpL P n ops rest Q ((d,.mp id)::E) G):wpL P n ops (o::rest) Q E H :=
  Xfs hg hd hn (Xl2 ky ho) (h _ _ (hG.new _))
theorem XiB [hu:HasU P t (.map kt et)] [huk:HasU P kt kd] {ky:K→Value} (hkk:KeyOk kd ky) {x y z:Operand} {key:K} {p:PV} {es:XbA K} {clock:Nat} (k:Nat) (hG:Has H L) (hg:o.guard=none) (hd:o.dst=none) (ho:o.op=.mapUpdate t x y z)
    (hx:E.ev x=some (.mp id)) (hy:E.ev y=some (.v (ky key))) (hz:E.ev z=some p) (hk:L[k]?=some (id,XU ky es clock))
    (h:∀ G,Has G (L.set k (id,XU ky (Xf8 es clock key p) (Xf9 es clock key)))→wpL P n ops rest Q E G):wpL P n ops (o::rest) Q E H :=
  Xon hg hd (XcC hkk ho hx hy hz (hG.get k id _ hk)) (h _ (hG.set hk _))
end
end Go.Th
namespace Go.Th
open Go.RowKit
def YC (P:Program) (lid:Nat) (args:List PV) (G:Xi) (Q:PV→Xi→Prop):Prop :=
  ∀ m w vals b lim,R m G w→m.blk lid=some (b,4,lim)→Xek m w args vals→∃ fn tmps assign body,(Instr.yield b vals).run P w=.ok (.round b fn tmps assign body) w ∧
    RoundIn Fence.wide 0 P b fn tmps assign body w fun e w'=>∃ v p G' m',e=.returned v∧Q p G'∧Rep m' w' p v∧R m' G' w'∧Le m w m' w'
theorem YC.mono {P:Program} {lid:Nat} {args:List PV} {G:Xi} {Q Q':PV→Xi→Prop} (h:YC P lid args G Q) (hq:∀ p H,Q p H→Q' p H):YC P lid args G Q':=fun m w vals b lim h1 h2 h3=>by
  obtain ⟨fn,tmps,assign,body,a,b⟩:=h m w vals b lim h1 h2 h3
  refine ⟨fn,tmps,assign,body,a,b.mono ?_⟩
  rintro e w' ⟨v,p,G',m',h1,h2,h3⟩
  exact ⟨v,p,G',m',h1,hq _ _ h2,h3⟩
theorem XfI {rd:Option Nat} {k:Nat} {P:Program} {l:Nat} {f:FuncId} {tmps:Array Value} {assign body:Code} {w:World} {R:Ending→World→Prop} (h:RoundIn Fence.wide k P l f tmps assign body w R):RoundIn (fen rd) k P l f tmps assign body w R:=by
  cases rd <;> exact h
section
variable {P:Program} {rd:Option Nat} {o:Oper} {a:Act} {w w':World} {K:Act→World→Prop} {Q:Exit→Act→World→Prop}
theorem XrB {l:Nat} {f:FuncId} {tmps:Array Value} {assign body:Code} (h:(execOp a.eval o).run P w=.ok (.round l f tmps assign body) w')
    (k:RoundIn Fence.wide 0 P l f tmps assign body w' fun e w''=>∃ v,e=.returned v∧K (a.put o.dst v) w''):o.wpIn (fen rd) 0 P a w K Q:=by
  refine ⟨fun f _=>Xb6 rd f,?_⟩
  rw [Xgf h (fun d=>by simp),h,Oper.uponIn_round]
  refine ⟨XcP rd,XfI (k.mono ?_)⟩
  rintro e w'' ⟨v,rfl,hk⟩
  exact hk
end
theorem XsD {m:Mp} {w:World} {E:Env} {ρ:Operand→Value} (hρ:∀ x q,E.ev x=some q→Rep m w q (ρ x)) {c:Array Operand} {ps:List PV} (ha:evs E c.toList=some ps):Xek m w ps (c.map ρ):=by
  obtain ⟨e1,e2⟩:=XcQ (m:=m) (w:=w) hρ c.toList ps ha
  refine ⟨by simp [e1],fun j q hj=>?_⟩
  have:=e2 j q hj
  simpa [Array.getD_eq_getD_getElem?,List.getD_eq_getElem?_getD] using this
section
variable {P:Program} {n:Nat} {Q:QA} {E:Env} {H:Xi} {ops:Array Oper} {rest:List Oper}
theorem Xxa {o:Oper} {c:Call} {x:Operand} {lid d:Nat} {args:List PV} {QC:PV→Xi→Prop} (hg:o.guard=none) (hd:o.dst=some d) (hn:d < n) (ho:o.op=.call c) (hc:c.callee=.value x) (hx:E.ev x=some (.yld lid))
    (ha:evs E c.args.toList=some args) (h:YC P lid args H QC) (k:∀ p H',QC p H'→wpL P n ops rest Q ((d,p)::E) H'):wpL P n ops (o::rest) Q E H:=by
  rintro rd m0 w0 a w ⟨h1,h2,m,h3,h4,h5⟩
  refine wpListIn_plain hg fun K hK=>?_
  have hxr:=h5.ev hx
  have hA:=XsD (m:=m) (w:=w) (ρ:=a.eval) (fun x q hx=>h5.ev hx) ha
  generalize hv:a.eval x=v at hxr
  cases hxr with
  | @yld _ b lim hb =>
    obtain ⟨fn,tmps,assign,body,hy,hround⟩:=h m w _ b lim h4 hb hA
    have hrun:(execOp a.eval o).run P w=.ok (.round b fn tmps assign body) w:=by
      simp [execOp,ho,resolve,hc,hv,Deferred.ofValue,invoke,hy]
    refine XrB hrun (hround.mono ?_)
    rintro e w' ⟨v,p,G',m',rfl,hq,hr,hR,hle⟩
    refine ⟨v,rfl,hK _ _ ?_⟩
    rw [hd]
    exact k p G' hq rd m0 w0 (a.put (some d) v) w' ⟨by simp [Act.put,h1],h2,m',h3.trans hle,hR,(h5.mono h4.rk hle).put (by omega) hr⟩
end
def Xh5 (fn:FuncId) (ps:Array Tmp) (assign body:Code) (n:Nat) (E:Env) (s p:Nat):Blk :=
  ⟨[.fn (.func 3) (.v (.int .i64 (s:Nat))::.v (.int .i64 (p:Nat))::(E.map (·.1)).map fun t=>(E.get t).getD (.v undef))],.loop fn ps assign body n (E.map (·.1)),true⟩
def Xtm (m:Mp) (w:World) (E:Env) (tmps:Array Value):Prop:=∀ t p,E.get t=some p→Rep m w p (tmps.getD t undef)
theorem Xvo {E:Env} {t:Nat} {p:PV} (h:E.get t=some p):t ∈ E.map (·.1):=by
  induction E with
  | nil=>simp [Env.get] at h
  | cons x r ih =>
    obtain ⟨s,q⟩:=x
    rw [Env.get_cons] at h
    by_cases e:s=t
    · simp [e]
    · rw [if_neg e] at h;simp [ih h]
theorem XuK {E:Env} {t:Nat} (h:t ∈ E.map (·.1)):∃ p,E.get t=some p:=by
  induction E with
  | nil=>simp at h
  | cons x r ih =>
    obtain ⟨s,q⟩:=x
    rw [Env.get_cons]
    by_cases e:s=t
    · exact ⟨q,by rw [if_pos e]⟩
    · rw [if_neg e]
      refine ih ?_
      simp only [List.map_cons,List.mem_cons] at h
      rcases h with h | h
      · exact absurd h.symm e
      · exact h
theorem Xlb {m:Mp} {w:World} {E:Env} {tmps:Array Value} (s p:Nat) (h:Xtm m w E tmps) :
    Rep m w (.fn (.func 3) (.v (.int .i64 (s:Nat))::.v (.int .i64 (p:Nat))::(E.map (·.1)).map fun t=>(E.get t).getD (.v undef)))
      (.func (.func 3) #[] ((Value.int .i64 (s:Nat)::.int .i64 (p:Nat)::(E.map (·.1)).map fun t=>tmps.getD t undef).toArray)):=by
  refine XfZ.2 (Xcu (.v _ rfl) (Xcu (.v _ rfl) ?_))
  have key:∀ ts:List Nat,(∀ t ∈ ts,∃ q,E.get t=some q)→CR m w (ts.map fun t=>(E.get t).getD (.v undef)) (ts.map fun t=>tmps.getD t undef):=by
    intro ts
    induction ts with
    | nil=>exact fun _=>Xm7
    | cons t ts ih =>
      intro hts
      obtain ⟨q,hq⟩:=hts t (by simp)
      refine Xcu ?_ (ih fun t' ht'=>hts t' (by simp [ht']))
      show Rep m w ((E.get t).getD (.v undef)) (tmps.getD t undef)
      rw [hq];exact h t q hq
  exact key _ fun t ht=>XuK ht
theorem XoW {m:Mp} {H:Xi} {w:World} (hR:R m H w) {fn:FuncId} {ps:Array Tmp} {assign body:Code} {n:Nat} {E:Env} {s p lid b lim:Nat} (hB:H[lid]?=some (some (Xh5 fn ps assign body n E s p))) (hm:m.blk lid=some (b,4,lim)) :
    ∃ tmps D,w.heap[b]?=some (.loop { state:=XjC s,pending:=XbT p,fn,tmps,params:=ps,assign,body,defers:=D })∧tmps.size=n∧Xtm m w E tmps∧¬ m.keep b∧lim=1∧s≤3:=by
  obtain ⟨_,⟨cur,⟨fn',ps',as',bo',n',ts',tmps,D,s',p',h0,he,h1,hn,rfl⟩,h2,h3,h4⟩,hk,_⟩:=hR.blk lid _ b 4 lim hB hm
  simp only [Xh5,Elem.loop.injEq] at he
  obtain ⟨rfl,rfl,rfl,rfl,rfl,rfl⟩:=he
  obtain ⟨u,hu,hru,_⟩:=h4 0 _ rfl
  have hu:_=u:=Option.some.inj hu
  subst hu
  have hc:=XfZ.1 hru
  obtain ⟨_,_,e1,r1,hc1⟩:=Xby hc
  simp only [List.cons.injEq] at e1
  obtain ⟨rfl,rfl⟩:=e1
  obtain ⟨_,_,e2,r2,hc2⟩:=Xby hc1
  simp only [List.cons.injEq] at e2
  obtain ⟨rfl,rfl⟩:=e2
  have i1:Value.int .i64 (s':Nat)=Value.int .i64 (s:Nat):=XJ r1
  have i2:Value.int .i64 (p':Nat)=Value.int .i64 (p:Nat):=XJ r2
  have j1:s'=s:=by injection i1;omega
  have j2:p'=p:=by injection i2;omega
  subst j1;subst j2
  refine ⟨tmps,D,h1,hn,fun t q ht=>?_,hk rfl,by simpa using h2.symm,h0⟩
  obtain ⟨j,hj⟩:=List.mem_iff_getElem?.1 (Xvo ht)
  obtain ⟨u,hu,hr⟩:=hc2.2 j q (by
    rw [List.getElem?_map,hj]
    simp [ht])
  rw [List.getElem?_map,hj] at hu
  have hu:tmps.getD t undef=u:=Option.some.inj hu
  rw [hu];exact hr
theorem Xrk {m:Mp} {H:Xi} {w:World} (hR:R m H w) {fn:FuncId} {ps:Array Tmp} {assign body:Code} {n:Nat} {E:Env} {s p lid b lim:Nat} (hB:H[lid]?=some (some (Xh5 fn ps assign body n E s p))) (hm:m.blk lid=some (b,4,lim))
    (s' p':Nat) (hs':s'≤3) {tmps:Array Value} {D:Nat} (hsz:tmps.size=n) (ht:Xtm m w E tmps) :
    R m (H.set lid (some (Xh5 fn ps assign body n E s' p'))) (w.putObj b (.loop { state:=XjC s',pending:=XbT p',fn,tmps,params:=ps,assign,body,defers:=D })) ∧
    Le m w m (w.putObj b (.loop { state:=XjC s',pending:=XbT p',fn,tmps,params:=ps,assign,body,defers:=D })):=by
  obtain ⟨_,_,_,_,_,_,hlim,_⟩:=XoW hR hB hm
  have hlt:=hR.lt hB hm
  refine hR.rewrite (w':=w.putObj b (.loop { state:=XjC s',pending:=XbT p',fn,tmps,params:=ps,assign,body,defers:=D })) hB rfl hm
    (cur':=#[.func (.func 3) #[] ((Value.int .i64 (s':Nat)::.int .i64 (p':Nat)::(E.map (·.1)).map fun t=>tmps.getD t undef).toArray)])
    (cs:=[.fn (.func 3) (.v (.int .i64 (s':Nat))::.v (.int .i64 (p':Nat))::(E.map (·.1)).map fun t=>(E.get t).getD (.v undef))])
    (by simp) rfl rfl rfl (fun j hj=>World.putObj_heap_other hj) ⟨fn,ps,assign,body,n,E.map (·.1),tmps,D,s',p',hs',rfl,World.putObj_heap_same hlt,hsz,rfl⟩ (by simp [hlim]) (by simp [hlim]) (fun j c hj=>?_)
  cases j with
  | zero =>
    have hj:_=c:=Option.some.inj hj
    subst hj
    exact ⟨_,rfl,Xlb s' p' ht,rfl⟩
  | succ j=>simp at hj
theorem Xrm {m:Mp} {H:Xi} {w:World} (hR:R m H w) {lid b d lim:Nat} {B:Blk} (hB:H[lid]?=some (some B)) (hown:B.own=true) (hm:m.blk lid=some (b,d,lim)) :
    R { m with keep:=fun k=>m.keep k∨k=b } (H.set lid none) w∧Le m w { m with keep:=fun k=>m.keep k∨k=b } w:=by
  have hle:Le m w { m with keep:=fun k=>m.keep k∨k=b } w:=⟨fun _ _ h=>h,fun _ h=>h,fun _ h=>.inl h,fun _ _=>rfl,Nat.le_refl _,rfl,rfl,rfl,fun _ h=>.inl h,rfl,fun _ _=>rfl⟩
  refine ⟨⟨fun k hk=>.inl (hR.rk k hk),fun k hk=>?_,fun i x hx=>by simpa using hR.dom i x hx,fun i C c d' li hi hmi=>?_,fun i j C D' bi di li bj dj lj hne hi hj=>?_,by simpa using hR.top⟩,hle⟩
  · rcases hk with hk | rfl
    · exact hR.kl k hk
    · exact hR.lt hB hm
  · rcases XQ hi with ⟨_,e⟩ | ⟨n1,e⟩
    · cases e
    · obtain ⟨g0,⟨cur',g1,g2,g3,g4⟩,g5,g6⟩:=hR.blk i C c d' li e hmi
      refine ⟨g0,⟨cur',g1,g2,g3,fun j q hj=>let ⟨u,u1,u2,u3⟩:=g4 j q hj;⟨u,u1,u2.mono hR.rk hle,u3⟩⟩,fun hoC hk=>?_,fun hoC=>g6 hoC⟩
      rcases hk with hk | rfl
      · exact g5 hoC hk
      · exact hR.inj i lid C B _ _ _ _ _ _ n1 e hB hoC hown hmi hm rfl
  · rcases XQ hi with ⟨_,e⟩ | ⟨n1,ei⟩
    · cases e
    · rcases XQ hj with ⟨_,e⟩ | ⟨n2,ej⟩
      · cases e
      · exact hR.inj i j C D' bi di li bj dj lj hne ei ej
theorem R.putKept {m:Mp} {H:Xi} {w:World} (h:R m H w) {b:Nat} {r r':Loop} (hb:w.heap[b]?=some (.loop r)) (hk:m.keep b) (hro:¬ m.ro b):R m H (w.putObj b (.loop r')):=by
  have hcell:∀ c o:Nat,m.ro c→(w.putObj b (.loop r')).cell? ⟨c,o,none⟩=w.cell? ⟨c,o,none⟩:=fun c o hc =>
    World.cell?_of_block (World.putObj_heap_other (fun e:c=b=>hro (by rw [← e];exact hc)))
  refine ⟨h.rk,fun c hc=>by simpa using h.kl c hc,h.dom,fun id B c d lim hi hm=>?_,h.inj,h.top⟩
  obtain ⟨h0,⟨cur,h1,h2,h3,h4⟩,h5,h6⟩:=h.blk id B c d lim hi hm
  have hne:c≠b:=fun e=>by
    subst e
    cases ho:B.own with
    | true=>exact h5 ho hk
    | false=>exact hro (h6 ho)
  exact ⟨h0,⟨cur,by rw [World.putObj_heap_other hne];exact h1,h2,h3,fun j p hj=>let ⟨v,v1,v2,v3⟩:=h4 j p hj;⟨v,v1,v2.mono' (fun _ _ h=>h) (fun _ h=>h) hcell,v3⟩⟩,h5,h6⟩
theorem Rep.putKept {m:Mp} {w:World} {b:Nat} {o:Obj} (hro:¬ m.ro b) {p:PV} {v:Value} (r:Rep m w p v):Rep m (w.putObj b o) p v :=
  r.mono' (fun _ _ h=>h) (fun _ h=>h) (fun c o hc=>World.cell?_of_block (World.putObj_heap_other (fun e:c=b=>hro (by rw [← e];exact hc))))
theorem Xrl {m:Mp} {H:Xi} {w:World} (hR:R m H w) {fn:FuncId} {ps:Array Tmp} {assign body:Code} {n:Nat} {E:Env} {s p lid b:Nat} {tmps:Array Value} {D:Nat} (hm:m.blk lid=some (b,4,1)) (hk:m.keep b) (hro:¬ m.ro b)
    (hb:w.heap[b]?=some (.loop { state:=XjC s,pending:=XbT p,fn,tmps,params:=ps,assign,body,defers:=D })) (hs:s≤3) (hsz:tmps.size=n) (ht:Xtm m w E tmps) :
    R { m with keep:=fun k=>m.keep k∧k≠b } (H.set lid (some (Xh5 fn ps assign body n E s p))) w∧∀ B,H[lid]?≠some (some B):=by
  have rep:∀ q v,Rep m w q v→Rep { m with keep:=fun k=>m.keep k∧k≠b } w q v:=fun q v h=>Rep.mono' (m:=m) (m':={ m with keep:=fun k=>m.keep k∧k≠b }) (w:=w) (w':=w) (fun _ _ h=>h) (fun _ h=>h) (fun _ _ _=>rfl) h
  have dead:∀ i B d li,H[i]?=some (some B)→m.blk i≠some (b,d,li):=fun i B d li hi hmi=>by
    obtain ⟨_,_,h5,h6⟩:=hR.blk i B b d li hi hmi
    cases ho:B.own with
    | true=>exact h5 ho hk
    | false=>exact hro (h6 ho)
  have hR':R { m with keep:=fun k=>m.keep k∧k≠b } H w:=by
    refine ⟨fun k h=>⟨hR.rk k h,fun e=>hro (e ▸ h)⟩,fun k h=>hR.kl k h.1,hR.dom,fun i C c d li hi hmi=>?_,hR.inj,hR.top⟩
    obtain ⟨g0,⟨cur,g1,g2,g3,g4⟩,g5,g6⟩:=hR.blk i C c d li hi hmi
    exact ⟨g0,⟨cur,g1,g2,g3,fun j q hj=>let ⟨u,u1,u2,u3⟩:=g4 j q hj;⟨u,u1,rep _ _ u2,u3⟩⟩,fun ho h=>g5 ho h.1,g6⟩
  refine ⟨?_,fun B hB=>dead lid B _ _ hB hm⟩
  refine hR'.put (id:=lid) (Xh5 fn ps assign body n E s p) hm ⟨_,⟨fn,ps,assign,body,n,E.map (·.1),tmps,D,s,p,hs,rfl,hb,hsz,rfl⟩,rfl,by simp [Xh5],fun j c hj=>?_⟩ rfl (fun h=>h.2 rfl) (fun i C di li _ hi _=>dead i C di li hi)
  cases j with
  | zero =>
    have hj:_=c:=Option.some.inj hj
    subst hj
    exact ⟨_,rfl,rep _ _ (Xlb s p ht),rfl⟩
  | succ j=>simp [Xh5] at hj
def Xc7:List Tmp→List PV→Env→Env
  | t::ts,p::ps,E=>Xc7 ts ps ((t,p)::E)
  | _,_,E=>E
theorem Xe7 {m:Mp} {w:World} {n:Nat}:∀ (ts:List Tmp) (ps:List PV) (vs:List Value) (E:Env) (tmps:Array Value),(∀ t ∈ ts,t < n)→tmps.size=n→Xtm m w E tmps→ps.length=ts.length →
    CR m w ps vs→((ts.zip vs).foldl (fun tmps (t,a)=>tmps.setIfInBounds t a) tmps).size=n∧Xtm m w (Xc7 ts ps E) ((ts.zip vs).foldl (fun tmps (t,a)=>tmps.setIfInBounds t a) tmps)
  | [],[],vs,E,tmps,_,hs,hE,_,_=>by simpa [Xc7] using ⟨hs,hE⟩
  | [],_::_,_,_,_,_,_,_,h,_=>by simp at h
  | _::_,[],_,_,_,_,_,_,h,_=>by simp at h
  | t::ts,p::ps,vs,E,tmps,hts,hs,hE,hl,hv=>by
    obtain ⟨v,vs,rfl,hr,hv⟩:=Xby hv
    have hlt:=hts t (by simp)
    exact Xe7 ts ps vs ((t,p)::E) (tmps.setIfInBounds t v) (fun t' ht'=>hts t' (by simp [ht'])) (by simp [hs]) (fun t' q hq=>by
      rw [Env.get_cons] at hq
      by_cases e:t=t'
      · subst e
        rw [if_pos rfl] at hq;cases hq
        simpa [Array.getD_eq_getD_getElem?,hs,hlt] using hr
      · rw [if_neg e] at hq
        have:=hE t' q hq
        simpa [Array.getD_eq_getD_getElem?,Array.getElem?_setIfInBounds_ne e] using this) (by simpa using hl) hv
def XoQ {S:Type} (K:List (Nat × Blk)) (L:S→List (Nat × Blk)) (I:S→Prop) (X:Nat→S→Prop):QA:=fun e _ G=>match e with
  | .normal=>∃ s,I s∧Has G (L s++K)
  | .ret=>∃ s,X 1 s∧Has G (L s++K)
  | .exit k=>∃ s,X (k+2) s∧Has G (L s++K)
  | _=>False
theorem Has.revive {H:Xi} {L:List (Nat × Blk)} {id:Nat} (h:Has H L) (hlt:id < H.length) (hd:∀ B,H[id]?≠some (some B)) (B:Blk):Has (H.set id (some B)) ((id,B)::L):=by
  have hne:∀ (k:Nat) (x:Nat × Blk),L[k]?=some x→x.1≠id:=fun k x hk e=>hd x.2 (by rw [← e];exact h.get k x.1 x.2 hk)
  refine ⟨fun k i C hk=>?_,fun i j x y hij hi hj=>?_⟩
  · cases k with
    | zero =>
      simp at hk;obtain ⟨rfl,rfl⟩:=hk
      simp [hlt]
    | succ k =>
      have hk:L[k]?=some (i,C):=by simpa using hk
      exact get_set_ne (h.get k i C hk) (fun e=>hne k _ hk e.symm)
  · cases i with
    | zero =>
      cases j with
      | zero=>exact absurd rfl hij
      | succ j=>simp at hi hj;subst hi;exact fun e=>hne j y hj e.symm
    | succ i =>
      cases j with
      | zero=>simp at hi hj;subst hj;exact hne i x hi
      | succ j=>exact h.ne i j x y (by omega) (by simpa using hi) (by simpa using hj)
theorem XqQ {P:Program} {n:Nat} {fn:FuncId} {ps:Array Tmp} {assign body:Code} {E:Env} {lid:Nat} {args:List PV} {S:Type} {K:List (Nat × Blk)} {L:S→List (Nat × Blk)} {I:S→Prop} {X:Nat→S→Prop} {s0:S} {G:Xi}
    (hl:args.length=ps.size) (hps:∀ t ∈ ps.toList,t < n) (hG:Has G ((lid,Xh5 fn ps assign body n E 0 0)::(L s0++K)))
    (h:∀ G,Has G (L s0++K)→wpA P n assign (XeC (wpA P n body (XoQ K L I X)) (fun _ _ _=>False)) (Xc7 ps.toList args E) G) :
    YC P lid args G (fun p G'=>(p=.v (.bool true)∧∃ s,I s∧Has G' ((lid,Xh5 fn ps assign body n E 0 0)::(L s++K))) ∨
      (p=.v (.bool false)∧∃ k s,1≤k∧X k s∧Has G' ((lid,Xh5 fn ps assign body n E 2 k)::(L s++K)))):=by
  intro m w vals b lim hR hm hv
  have hB:=hG.get 0 lid _ rfl
  obtain ⟨tmps,D,hh,hsz,hT,hnk,rfl,_⟩:=XoW hR hB hm
  have hvs:vals.size=ps.size:=hv.1.trans hl
  have hcr:CR m w args vals.toList:=by
    refine ⟨by simpa using hv.1,fun j c hj=>?_⟩
    have hlt:j < vals.size:=by rw [hv.1];exact (List.getElem?_eq_some_iff.1 hj).1
    exact ⟨vals[j],by simp [hlt],by simpa [Array.getD_eq_getD_getElem?,hlt] using hv.2 j c hj⟩
  have hy:=run_yield (P:=P) (args:=vals) hh hvs
  obtain ⟨p2,p3⟩:=Xe7 (m:=m) (w:=w) ps.toList args vals.toList E tmps hps hsz hT (by simpa using hl) hcr
  have hfold:(ps.zip vals).foldl (fun tmps (t,a)=>tmps.setIfInBounds t a) tmps=(ps.toList.zip vals.toList).foldl (fun tmps (t,a)=>tmps.setIfInBounds t a) tmps:=by
    rw [← Array.foldl_toList];simp
  simp only at hy
  rw [hfold] at hy
  refine ⟨_,_,_,_,hy,roundIn_of_wpIn (F:=Fence.wide) trivial ?_⟩
  have hnro:¬ m.ro b:=fun hr=>hnk (hR.rk b hr)
  obtain ⟨hRh,hleh⟩:=Xrm hR hB rfl hm
  have hrep:∀ q v,Rep m w q v→Rep { m with keep:=fun k=>m.keep k∨k=b } w q v:=fun q v r=>r.mono hR.rk hleh
  have hass:=h _ hG.forget (some b) { m with keep:=fun k=>m.keep k∨k=b } w { tmps:=(ps.toList.zip vals.toList).foldl (fun tmps (t,a)=>tmps.setIfInBounds t a) tmps,defers:=[] } w
    ⟨p2,(fun l hl=>by cases hl;exact ⟨.inr rfl,_,hh⟩),_,LeD.refl _ w,hRh,fun t q hq=>hrep _ _ (p3 t q hq)⟩
  refine wpIn_mono hass ?_
  rintro e a1 w1 ⟨E1,G1,hq,z1,_,m1,⟨hl1,bs,b1,b2,b3⟩,hR1,hF1⟩
  cases e with
  | normal =>
    have hk1:m1.keep b:=hl1.keep b (.inr rfl)
    have hh1:=(hl1.same b (.inr rfl)).trans hh
    have hlt1:b < w1.heap.size:=(Array.getElem?_eq_some_iff.1 hh1).1
    have hlt:b < w.heap.size:=(Array.getElem?_eq_some_iff.1 hh).1
    have hnro1:¬ m1.ro b:=fun hr=>(hl1.fresh b hr).elim (fun h1=>hnro h1) (fun h1=>h1 (.inr rfl))
    have hbr:=run_beginRound (P:=P) hh1 rfl
    simp only at hbr
    obtain ⟨rb,hrb⟩:∃ rb:Loop,rb={ state:=.busy,pending:=XbT 0,fn,tmps,params:=ps,assign,body,defers:=D }:=⟨_,rfl⟩
    rw [← hrb] at hbr
    have hR2:=hR1.putKept (r':=rb) hh1 hk1 hnro1
    have hl2:Le { m with keep:=fun k=>m.keep k∨k=b } (w.putObj b (.loop rb)) m1 (w1.putObj b (.loop rb)):=by
      refine ⟨hl1.blk,hl1.ro,hl1.keep,fun c hc=>?_,by simpa using hl1.size,hl1.os,hl1.tape,hl1.output,hl1.fresh,hl1.top,hl1.old⟩
      by_cases e:c=b
      · subst e
        rw [World.putObj_heap_same hlt1,World.putObj_heap_same hlt]
      · rw [World.putObj_heap_other e,World.putObj_heap_other e];exact hl1.same c hc
    have hbody:=hq (some b) { m with keep:=fun k=>m.keep k∨k=b } (w.putObj b (.loop rb)) a1 (w1.putObj b (.loop rb))
      ⟨z1,(fun l hl=>by cases hl;exact ⟨.inr rfl,rb,World.putObj_heap_same hlt⟩),m1,⟨hl2,bs,b1,b2,fun c hc=>by
        obtain ⟨c1,c2,c3⟩:=b3 c hc
        exact ⟨c1,c2,(World.putObj_heap_other (fun e=>c2 (.inr e))).trans c3⟩⟩,hR2,fun t q hq=>(hF1 t q hq).putKept hnro1⟩
    refine ⟨_,hbr,wpIn_mono hbody ?_⟩
    rintro e a3 w3 ⟨E3,G3,hq3,_,_,m3,⟨hl3,_⟩,hR3,_⟩
    have hk3:m3.keep b:=hl3.keep b (.inr rfl)
    have hh3:=(hl3.same b (.inr rfl)).trans (World.putObj_heap_same hlt)
    have hlt3:b < w3.heap.size:=(Array.getElem?_eq_some_iff.1 hh3).1
    have hnro3:¬ m3.ro b:=fun hr=>(hl3.fresh b hr).elim (fun h1=>hnro h1) (fun h1=>h1 (.inr rfl))
    have hm3:m3.blk lid=some (b,4,1):=hl3.blk lid _ hm
    have fin:∀ (p st:Nat) (s:S),XjC st=(if (XbT p).isNone then .ready else .done)→st≤3→Has G3 (L s++K) →
        ∃ v w',(Instr.endRound b (XbT p)).run P w3=.ok v w'∧∃ v1 G' m',Ending.returned v=.returned v1∧Rep m' w' (.v (.bool (XbT p).isNone)) v1∧R m' G' w'∧Le m w m' w'∧Has G' ((lid,Xh5 fn ps assign body n E st p)::(L s++K)):=fun p st s hst hst3 hH=>by
      have he:=run_endRound (P:=P) (XbT p) hh3
      subst hrb
      simp only at he
      rw [← hst] at he
      have hR4:=hR3.putKept (r':={ state:=XjC st,pending:=XbT p,fn,tmps,params:=ps,assign,body,defers:=D }) hh3 hk3 hnro3
      have hT4:Xtm m3 (w3.putObj b (.loop { state:=XjC st,pending:=XbT p,fn,tmps,params:=ps,assign,body,defers:=D })) E tmps:=fun t q hq =>
        Rep.putKept hnro3 (Rep.mono (m:={ m with keep:=fun k=>m.keep k∨k=b }) (fun c hc=>Or.inl (hR.rk c hc)) hl3 (Rep.putKept (m:={ m with keep:=fun k=>m.keep k∨k=b }) hnro (hrep _ _ (hT t q hq))))
      obtain ⟨hRs,hdead⟩:=Xrl hR4 hm3 hk3 hnro3 (World.putObj_heap_same hlt3) hst3 hsz hT4
      refine ⟨_,_,he,_,_,_,rfl,.v _ rfl,hRs,?_,hH.revive (hR3.dom lid _ hm3) hdead _⟩
      refine ⟨hl3.blk,hl3.ro,fun c hc=>⟨hl3.keep c (.inl hc),fun e=>hnk (e ▸ hc)⟩,fun c hc=>?_,by have:=hl3.size;simp only [World.putObj_size] at this ⊢;omega,hl3.os,hl3.tape,hl3.output,fun c hc=>?_,hl3.top,hl3.old⟩
      · have hne:c≠b:=fun e=>hnk (e ▸ hc)
        rw [World.putObj_heap_other hne,hl3.same c (.inl hc),World.putObj_heap_other hne]
      · rcases hl3.fresh c hc with h1 | h1
        · exact .inl h1
        · exact .inr fun h2=>h1 (.inl h2)
    cases e with
    | normal =>
      obtain ⟨s,hI,hH⟩:=hq3
      obtain ⟨v,w',h1,v1,G',m',h2,h3,h4,h5,h6⟩:=fin 0 0 s rfl (by omega) hH
      exact ⟨v,w',h1,v1,_,G',m',h2,.inl ⟨rfl,s,hI,h6⟩,h3,h4,h5⟩
    | ret =>
      obtain ⟨s,hI,hH⟩:=hq3
      obtain ⟨v,w',h1,v1,G',m',h2,h3,h4,h5,h6⟩:=fin 1 2 s rfl (by omega) hH
      exact ⟨v,w',h1,v1,_,G',m',h2,.inr ⟨rfl,1,s,by omega,hI,h6⟩,h3,h4,h5⟩
    | exit k =>
      obtain ⟨s,hI,hH⟩:=hq3
      obtain ⟨v,w',h1,v1,G',m',h2,h3,h4,h5,h6⟩:=fin (k+2) 2 s rfl (by omega) hH
      exact ⟨v,w',h1,v1,_,G',m',h2,.inr ⟨rfl,k+2,s,by omega,hI,h6⟩,h3,h4,h5⟩
    | goto l=>exact hq3.elim
    | panic c=>exact hq3.elim
    | outgrown=>exact hq3.elim
  | exit id=>exact hq.elim
  | ret=>exact hq.elim
  | goto l=>exact hq.elim
  | panic c=>exact hq.elim
  | outgrown=>exact hq.elim
def XBQ (P:Program) (gf:FuncId) (cap:List PV) (C C':List (Nat × Blk)) (xs:List (List PV)) (cut:Prop):Prop :=
  ∀ (lid:Nat) (S:Type) (I:Nat→S→Prop) (X:S→Prop) (L:S→List (Nat × Blk)),(cut→∀ s,¬ I xs.length s) →
    (∀ i s G K args,xs[i]?=some args→I i s→Has G (L s++K)→YC P lid args G (fun p G'=>∃ s',Has G' (L s'++K)∧(p=.v (.bool true)∧I (i+1) s'∨p=.v (.bool false)∧X s'))) →
    ∀ s G K,I 0 s→Has G (L s++(C++K))→AC P gf (.yld lid::cap) G (fun _ G'=>∃ s',Has G' (L s'++(C'++K))∧(I xs.length s'∨X s'))
theorem R.keepNew {m:Mp} {H:Xi} {w:World} (h:R m H w) (o:Obj):R { m with keep:=fun k=>m.keep k∨k=w.heap.size } H (w.alloc o)∧Le m w { m with keep:=fun k=>m.keep k∨k=w.heap.size } (w.alloc o):=by
  obtain ⟨h1,h2⟩:=h.alloc_any o
  have hle:Le m w { m with keep:=fun k=>m.keep k∨k=w.heap.size } (w.alloc o):=⟨h2.blk,h2.ro,fun b hb=>.inl hb,h2.same,h2.size,h2.os,h2.tape,h2.output,h2.fresh,rfl,fun _ _=>rfl⟩
  have rep:∀ q v,Rep m (w.alloc o) q v→Rep { m with keep:=fun k=>m.keep k∨k=w.heap.size } (w.alloc o) q v:=fun q v r =>
    Rep.mono' (m:=m) (m':={ m with keep:=fun k=>m.keep k∨k=w.heap.size }) (w:=w.alloc o) (w':=w.alloc o) (fun _ _ h=>h) (fun _ h=>h) (fun _ _ _=>rfl) r
  refine ⟨⟨fun b hb=>.inl (h1.rk b hb),fun b hb=>?_,h1.dom,fun id B b d lim hi hm=>?_,h1.inj,h1.top⟩,hle⟩
  · rcases hb with hb | rfl
    · exact h1.kl b hb
    · simp
  · obtain ⟨g0,⟨cur,g1,g2,g3,g4⟩,g5,g6⟩:=h1.blk id B b d lim hi hm
    refine ⟨g0,⟨cur,g1,g2,g3,fun j q hj=>let ⟨u,u1,u2,u3⟩:=g4 j q hj;⟨u,u1,rep _ _ u2,u3⟩⟩,fun ho hk=>?_,g6⟩
    rcases hk with hk | rfl
    · exact g5 ho hk
    · have:=h.lt hi hm;omega
theorem XjG {P:Program} {n:Nat} {Q:QA} {E:Env} {H:Xi} {g:Operand} {ps:Array Tmp} {assign body:Code} {gf:FuncId} {cap:List PV} {C C' K:List (Nat × Blk)} {xs:List (List PV)} {cut:Prop} {S:Type} {I:Nat→S→Prop} {X:Nat→S→Prop} {L:S→List (Nat × Blk)}
    (hg:E.ev g=some (.fn (.func gf) cap)) (hseq:XBQ P gf cap C C' xs cut) (hcut:cut→∀ s,¬ I xs.length s) (hsz:∀ args ∈ xs,args.length=ps.size) (hps:∀ t ∈ ps.toList,t < n) (s0:S) (h0:I 0 s0) (hH:Has H (L s0++(C++K)))
    (round:∀ i args s G K',xs[i]?=some args→I i s→Has G (L s++K')→wpA P n assign (XeC (wpA P n body (XoQ K' L (I (i+1)) X)) (fun _ _ _=>False)) (Xc7 ps.toList args E) G)
    (done:∀ s G,I xs.length s→Has G (L s++(C'++K))→Q .normal E G)
    (stop:∀ k s G,X k s→Has G (L s++(C'++K))→(k=1→Q .ret E G)∧∀ j,k=j+2→Q (.exit j) E G):wpA P n (.rangeFunc g ps assign body) Q E H:=by
  rintro rd m0 w0 a w ⟨hz,hrd,m,hl,hR,hF⟩
  have hgr:=hF.ev hg
  obtain ⟨vs,hgv,hvs⟩:∃ vs,a.eval g=.func (.func gf) #[] vs∧Xek m w cap vs:=by
    generalize a.eval g=v at hgr
    cases hgr with
    | fn vs hl hh=>exact ⟨vs,rfl,hl,hh⟩
  refine wpIn_rangeFunc fun fn _=>?_
  rw [Xg0]
  have key:∀ (m1:Mp) (w1:World) (mark:List Deferred) (D:Nat),Le m w m1 w1→R m1 H w1→LeD m0 w0 m1 w1 (mark++a.defers) →
      (Instr.enterLoop fn a.tmps ps assign body rd).run P w=.ok (w1.heap.size,mark) (w1.alloc (.loop { state:=.ready,pending:=none,fn,tmps:=a.tmps,params:=ps,assign,body,defers:=D })) →
      ∃ (l:Nat) (mark:List Deferred) (w₁:World) (d:Deferred) (w₁':World) (f:FuncId) (args:Array Value) (w₂:World),
        (Instr.enterLoop fn a.tmps ps assign body rd).run P w=.ok (l,mark) w₁∧(resolve a.eval (rangeCall g l) 0).run P w₁=.ok d w₁'∧(∀ f',Target.leads P w₁' d.target d.args=some f'→(fen rd).fn f') ∧
        (invoke d.target d.args).run P w₁'=.ok (.enter f args) w₂∧((fen rd).depth.isSome=true→1≤0)∧CallsIn (fen rd) (0 - 1) P f args w₂ (rangePost (fen rd) 0 P l (Qr rd m0 w0 n Q) { a with defers:=mark++a.defers }):=fun m1 w1 mark D hle1 hR1 hLD hen=>by
    have hT1:Xtm m1 w1 E a.tmps:=fun t q hq=>(hF t q hq).mono hR.rk hle1
    obtain ⟨hR2,hle2⟩:=hR1.newObj (Xh5 fn ps assign body n E 0 0) (.loop { state:=.ready,pending:=none,fn,tmps:=a.tmps,params:=ps,assign,body,defers:=D }) 4
      #[.func (.func 3) #[] ((Value.int .i64 (0:Nat)::.int .i64 (0:Nat)::(E.map (·.1)).map fun t=>a.tmps.getD t undef).toArray)]
      ⟨fn,ps,assign,body,n,E.map (·.1),a.tmps,D,0,0,by omega,rfl,rfl,hz,rfl⟩ (by simp [Xh5]) rfl (fun j c hj=>by
        cases j with
        | zero =>
          have hj:_=c:=Option.some.inj hj
          subst hj
          exact ⟨_,rfl,Xlb 0 0 hT1,rfl⟩
        | succ j=>simp [Xh5] at hj)
    have hG2:=hH.new (Xh5 fn ps assign body n E 0 0)
    generalize hm2:({ m1 with blk:=fun i=>if i=H.length then some (w1.heap.size,4,_) else m1.blk i }:Mp)=m2 at hR2 hle2
    have hlid:m2.blk H.length=some (w1.heap.size,4,1):=by rw [← hm2];simp
    generalize hW2:w1.alloc (.loop { state:=.ready,pending:=none,fn,tmps:=a.tmps,params:=ps,assign,body,defers:=D })=W2 at hen hR2 hle2
    have hac:=hseq H.length (S × Nat) (fun i s=>s.2=0∧I i s.1) (fun s=>1≤s.2∧X s.2 s.1) (fun s=>(H.length,Xh5 fn ps assign body n E (if s.2=0 then 0 else 2) s.2)::L s.1)
      (fun hc s hI=>hcut hc s.1 hI.2)
      (fun i s G K' args hx hI hG=>by
        obtain ⟨s,k⟩:=s
        obtain ⟨hk,hI⟩:=hI
        dsimp only at hk hI hG
        subst hk
        refine (XqQ (s0:=s) (K:=K') (L:=L) (I:=I (i+1)) (X:=X) (hsz args (List.mem_of_getElem? hx)) hps (by simpa using hG) (fun G hG=>round i args s G K' hx hI hG)).mono ?_
        rintro p G' (⟨rfl,s',h1,h2⟩ | ⟨rfl,k,s',h1,h2,h3⟩)
        · exact ⟨(s',0),by simpa using h2,.inl ⟨rfl,rfl,h1⟩⟩
        · have hk:¬ k=0:=by omega
          exact ⟨(s',k),by simpa [hk] using h3,.inr ⟨rfl,h1,h2⟩⟩)
      (s0,0) (H++[some (Xh5 fn ps assign body n E 0 0)]) K ⟨rfl,h0⟩ (by simpa using hG2)
    obtain ⟨⟨fn',hf1,hf2,hf3⟩,hcall⟩:=hac
    have h2:¬ fn'.name= "runtime.NumGoroutine":=by simpa using hf2
    have h3:¬ fn'.body=none:=fun e=>by rw [e] at hf3;simp at hf3
    have eg:∀ (args:Array Value) (w:World),(callFunc gf args).run P w=.ok (.enter gf args) w:=fun args w=>by simp [callFunc,hf1,h2,h3]
    refine ⟨w1.heap.size,mark,W2,{ target:=.fn (.func gf) vs,args:=#[.func (.yield w1.heap.size) #[] #[]] },W2,gf,#[.func (.yield w1.heap.size) #[] #[]]++vs,W2,hen,?_,fun f' _=>Xb6 rd f',?_,XcP rd,?_⟩
    · simp only [resolve,hgv]
      simp [Deferred.ofValue,Act.eval]
    · simp [invoke,eg]
    · refine Xeb ((hcall m2 W2 _ hR2 ?_).mono ?_)
      · have hone:Xek m2 W2 [.yld H.length] #[.func (.yield w1.heap.size) #[] #[]] :=
          ⟨rfl,fun j c hj=>by
            cases j with
            | zero=>simp at hj;subst hj;exact .yld hlid
            | succ j=>simp at hj⟩
        have hcap:Xek m2 W2 cap vs:=⟨hvs.1,fun j c hj=>((hvs.2 j c hj).mono hR.rk hle1).mono hR1.rk hle2⟩
        exact hone.append hcap
      · rintro en w3 ⟨v,q,G3,m3,rfl,⟨⟨s,k⟩,hG3,hcase⟩,_,hR3,hle3⟩
        dsimp only at hG3 hcase
        have hm3:m3.blk H.length=some (w1.heap.size,4,1):=hle3.blk _ _ hlid
        have hB3:=hG3.get 0 H.length _ rfl
        obtain ⟨tmps3,D3,hh3,hsz3,hT3,_,_,_⟩:=XoW hR3 hB3 hm3
        have hnb:XjC (if k=0 then 0 else 2)≠.busy:=by
          by_cases e:k=0
          · rw [if_pos e];simp [XjC]
          · rw [if_neg e];simp [XjC]
        have hel:=run_endLoop (P:=P) hh3 hnb
        simp only at hel
        obtain ⟨hR4,hle4⟩:=Xrk hR3 hB3 hm3 3 k (by omega) (tmps:=tmps3) (D:=D3) hsz3 hT3
        have hG4:=hG3.set (k:=0) rfl (Xh5 fn ps assign body n E 3 k)
        have hleA:Le m1 w1 m3 _:=(hle2.trans hle3).trans hle4
        have hat:∀ (G:Xi),R m3 G (w3.putObj w1.heap.size (.loop { state:=XjC 3,pending:=XbT k,fn,tmps:=tmps3,params:=ps,assign,body,defers:=D3 })) →
            At rd m0 w0 n E G { a with defers:=mark++a.defers } (w3.putObj w1.heap.size (.loop { state:=XjC 3,pending:=XbT k,fn,tmps:=tmps3,params:=ps,assign,body,defers:=D3 })):=fun G hRG =>
          ⟨hz,hrd,m3,hLD.trans hleA,hRG,fun t q hq=>(hT1 t q hq).mono hR1.rk hleA⟩
        refine ⟨XbT k,_,hel,?_⟩
        have hGt:Has (G3.set H.length (some (Xh5 fn ps assign body n E 3 k))) (L s++(C'++K)):=by
          have:=Has.tail hG4
          simpa using this
        rcases hcase with ⟨hk,hI⟩ | ⟨hk,hX⟩
        · subst hk
          exact ⟨E,_,done s _ hI hGt,hat _ hR4⟩
        · obtain ⟨q1,q2⟩:=stop k s _ hX hGt
          match k,hk with
          | 1,_=>exact wpIn_ret ⟨E,_,q1 rfl,hat _ hR4⟩
          | j+2,_=>exact wpIn_exit ⟨E,_,q2 j rfl,hat _ hR4⟩
  cases rd with
  | none =>
    obtain ⟨hR1,hle1⟩:=hR.keepNew (.deferred (some []))
    obtain ⟨hl0,bs,b1,b2,b3⟩:=hl
    refine key _ (w.alloc (.deferred (some []))) [{ target:=.collected w.heap.size,args:=#[] }] w.heap.size hle1 hR1 ⟨hl0.trans hle1,w.heap.size::bs,?_,by rw [b2];rfl,fun c hc=>?_⟩ ?_
    · rw [List.nodup_cons]
      refine ⟨fun hmem=>?_,b1⟩
      obtain ⟨_,_,h3⟩:=b3 _ hmem
      have:=(Array.getElem?_eq_some_iff.1 h3).1
      omega
    · rcases List.mem_cons.1 hc with rfl | hc
      · exact ⟨.inr rfl,fun hk=>by have:=hR.kl _ (hl0.keep _ hk);omega,World.alloc_heap_new w _⟩
      · obtain ⟨c1,c2,c3⟩:=b3 c hc
        exact ⟨.inl c1,c2,(hle1.same c c1).trans c3⟩
    · have:=run_enterLoop_outer (P:=P) (w:=w) fn a.tmps ps assign body
      rw [this]
      simp
  | some l0 =>
    obtain ⟨hk0,r0,hr0⟩:=hrd l0 rfl
    have hh0:=(hl.le.same l0 hk0).trans hr0
    exact key m w [] r0.defers (Le.refl m w) hR hl (run_enterLoop_inner hh0 _ _ _ _ _)
end Go.Th
namespace Go.Th
open Go.RowKit
section
variable {P:Program} {n:Nat} {Q:QA} {E:Env} {H:Xi}
theorem At.freezeP {rd:Option Nat} {m0:Mp} {w0:World} {a:Act} {w:World} {t id off:Nat} {C:Blk} (h:At rd m0 w0 n E H a w) (ht:E.get t=some (.ptr id off)) (hB:H[id]?=some (some C)):At rd m0 w0 n ((t,.ept C.cells off)::E) (H.set id none) a w:=by
  obtain ⟨h1,h2,m,h3,h4,h5⟩:=h
  have hr:=h5 t _ ht
  generalize hv:a.tmps.getD t undef=v at hr
  cases hr with
  | @ptr _ _ b lim hm =>
    obtain ⟨_,⟨cur,c1,c2,c3,c4⟩,hk1,hk2⟩:=h4.blk id C b 0 lim hB hm
    have hle:Le m w { blk:=m.blk,ro:=fun k=>m.ro k∨k=b,keep:=fun k=>m.keep k∨k=b,top:=m.top } w :=
      ⟨fun _ _ h=>h,fun _ h=>.inl h,fun _ h=>.inl h,fun _ _=>rfl,Nat.le_refl _,rfl,rfl,rfl,fun k hk=>by
        rcases hk with hk | rfl
        · exact .inl hk
        · cases ho:C.own with
          | true=>exact .inr (hk1 ho)
          | false=>exact .inl (hk2 ho),rfl,fun _ _=>rfl⟩
    have hR:R { blk:=m.blk,ro:=fun k=>m.ro k∨k=b,keep:=fun k=>m.keep k∨k=b,top:=m.top } (H.set id none) w:=by
      refine ⟨fun k hk=>?_,fun k hk=>?_,fun i x hx=>by simpa using h4.dom i x hx,fun i C' bi di li hi hmi=>?_,fun i j C' D bi di li bj dj lj hne hi hj=>?_,by simpa using h4.top⟩
      · rcases hk with hk | hk
        · exact .inl (h4.rk k hk)
        · exact .inr hk
      · rcases hk with hk | rfl
        · exact h4.kl k hk
        · exact h4.lt hB hm
      · rcases XQ hi with ⟨_,e⟩ | ⟨n1,e⟩
        · cases e
        · obtain ⟨g0,⟨cur',g1,g2,g3,g4⟩,g5,g6⟩:=h4.blk i C' bi di li e hmi
          refine ⟨g0,⟨cur',g1,g2,g3,fun j c hj=>let ⟨u,u1,u2,u3⟩:=g4 j c hj;⟨u,u1,u2.mono h4.rk hle,u3⟩⟩,fun hoC hk=>?_,fun hoC=>.inl (g6 hoC)⟩
          rcases hk with hk | rfl
          · exact g5 hoC hk
          · cases ho:C.own with
            | true=>exact h4.inj i id C' C _ _ _ _ _ _ n1 e hB hoC ho hmi hm rfl
            | false=>exact g5 hoC (h4.rk _ (hk2 ho))
      · rcases XQ hi with ⟨_,e⟩ | ⟨n1,ei⟩
        · cases e
        · rcases XQ hj with ⟨_,e⟩ | ⟨n2,ej⟩
          · cases e
          · exact h4.inj i j C' D bi di li bj dj lj hne ei ej
    refine ⟨h1,h2,_,h3.trans hle,hR,fun t' p ht'=>?_⟩
    rw [Env.get_cons] at ht'
    by_cases e:t=t'
    · subst e
      rw [if_pos rfl] at ht';cases ht'
      rw [hv]
      refine .ept (b:=b) (o:=0) (fun j=>cur.getD (0+j) undef) (.inr rfl) (fun j q hj=>?_) (fun j q hj=>?_)
      all_goals
        obtain ⟨u,u1,u2,_⟩:=c4 _ _ hj
        have hg:cur.getD (0+j) undef=u:=by rw [Array.getD_eq_getD_getElem?,u1];rfl
      · rw [cell_of_row w b _ cur C.elem.tid (0,0) c1,u1,hg]
      · simp only [hg]
        exact u2.mono h4.rk hle
    · rw [if_neg e] at ht'
      exact (h5 t' p ht').mono h4.rk hle
theorem Xk2 {c:Code} (t:Nat) {id off:Nat} {C:Blk} (ht:E.get t=some (.ptr id off)) (hB:H[id]?=some (some C)) (h:wpA P n c Q ((t,.ept C.cells off)::E) (H.set id none)):wpA P n c Q E H :=
  fun rd m0 w0 a w hat=>h rd m0 w0 a w (At.freezeP hat ht hB)
theorem Xz {L:List (Nat × Blk)} {c:Code} (t:Nat) {id:Nat} {C:Blk} (hG:Has H ((id,C)::L)) (ht:E.get t=some (.ptr id 0)) (h:∀ G,Has G L→wpA P n c Q ((t,.ept C.cells 0)::E) G):wpA P n c Q E H :=
  Xk2 t ht (hG.get 0 id C rfl) (h _ hG.forget)
end
section
variable {P:Program} {n:Nat} {l:List Oper} {Hs:Nat→Xi} {i:Nat} {o:Oper} {os:List Oper} {acc:List PV} {E:Env} {K:Env→Prop} {d:Nat} {p:PV}
theorem XA3 {H:Xi} (c:Nat) (h1:XaF l i=c) (h2:XaR l i=c) (hH:Hs c=H) (hg:o.guard=none) (hl:Xq o=false) (hd:o.dst=some d) (hn:d < n) (h:OpK P o (XK o E) H p H) (k:DY P n l Hs (i+1) os (p::acc) ((d,p)::E) K):DY P n l Hs i (o::os) acc E K:=by
  refine ⟨p,⟨fun d' hd'=>by rw [hd] at hd';cases hd';exact hn,?_⟩,by rw [hd];exact k⟩
  rw [hg,hl]
  intro c' hc1 hc2
  have e:c'=c:=by omega
  rw [e,hH]
  exact h
end
section
variable {P:Program} {E:Env} {H:Xi} {o:Oper} {t ty:TypeId} {x y:Operand}
theorem Xjz [hu:HasU P t .string] {b:ByteArray} (ho:o.op=.call { callee:=.builtin .len,args:=#[x],argTypes:=#[t] }) (hx:E.ev x=some (.v (.string b))):OpV P o E H (.v (.int .i64 (b.size:Nat))):=fun m w ρ _ hρ=>by
  have h:=XJ (hρ x _ hx)
  refine ⟨.int .i64 b.size,?_,.v _ rfl⟩
  simp [execOp,ho,resolve,invoke,builtin,h,Builtin.len_,run_underlying hu.u,goInt]
def XE (b:ByteArray) (i:Nat):Nat:=((b[i]?).getD 0).toNat
theorem Xhp (b:ByteArray) (i:Nat):XE b i < 256:=((b[i]?).getD 0).toNat_lt
theorem Xgs [hu:HasU P t .string] {b:ByteArray} {k:IntKind} {i:Int} (ho:o.op=.index t x y) (hx:E.ev x=some (.v (.string b))) (hy:E.ev y=some (.v (.int k i))) (h:0≤i∧i < b.size):OpV P o E H (.v (.int .u8 (XE b i.toNat:Nat))):=fun m w ρ _ hρ=>by
  have e1:=XJ (hρ x _ hx)
  have e2:=XJ (hρ y _ hy)
  have hlt:i.toNat < b.size:=by omega
  refine ⟨.int .u8 (XE b i.toNat:Nat),?_,.v _ rfl⟩
  have hb:b[i.toNat]?=some b[i.toNat]:=by simp [hlt]
  simp [execOp,ho,e1,e2,Instr.index,asIntOf,run_underlying hu.u,h.1,hb,XE]
theorem Xiy [hu:HasU P t .string] {b:ByteArray} {lo hi':Option Operand} {l h:Nat} {kl kh:IntKind} (ho:o.op=.slice t x lo hi' none) (hx:E.ev x=some (.v (.string b)))
    (hlo:match lo with | none=>l=0 | some y=>E.ev y=some (.v (.int kl (l:Int)))) (hhi:match hi' with | none=>h=b.size | some y=>E.ev y=some (.v (.int kh (h:Int)))) (hlh:l≤h∧h≤b.size):OpV P o E H (.v (.string (b.extract l h))):=fun m w ρ hR hρ=>by
  have ex:=XJ (hρ x _ hx)
  have hb:(Instr.sliceBounds false b.size b.size (lo.map ρ) (hi'.map ρ) none).run P w=.ok (l,h,b.size) w:=by
    unfold Instr.sliceBounds
    cases lo with
    | none =>
      simp only at hlo
      subst hlo
      cases hi' with
      | none=>simp only at hhi;subst hhi;simp
      | some y =>
        simp only at hhi
        have:=XJ (hρ y _ hhi)
        simp [this,XV kh h b.size _ (by omega)]
    | some y =>
      simp only at hlo
      have h1:=XJ (hρ y _ hlo)
      cases hi' with
      | none=>simp only at hhi;subst hhi;simp [h1,XV kl l b.size _ (by omega)]
      | some y' =>
        simp only at hhi
        have h2:=XJ (hρ y' _ hhi)
        simp [h1,h2,XV kl l h _ (by omega),XV kh h b.size _ (by omega)]
  refine ⟨.string (b.extract l h),?_,.v _ rfl⟩
  simp [execOp,ho,ex,Instr.sliceAt,Instr.slice,run_underlying hu.u,hb]
def Xh0 (a b:ByteArray):Bool:=a.toList == b.toList
theorem Xa9 {a b:ByteArray} (ho:o.op=.binOp .eql t x y ty) (hx:E.ev x=some (.v (.string a))) (hy:E.ev y=some (.v (.string b))):OpV P o E H (.v (.bool (Xh0 a b))):=X7 ho hx hy rfl rfl (fun _=>rfl) rfl
theorem Xb0 {a b:ByteArray} (ho:o.op=.binOp .neq t x y ty) (hx:E.ev x=some (.v (.string a))) (hy:E.ev y=some (.v (.string b))):OpV P o E H (.v (.bool (!Xh0 a b))):=X7 ho hx hy rfl rfl (fun _=>rfl) rfl
def Xsx (k:IntKind) (a b:Int):Int:=k.wrap ((BitVec.ofInt k.bits a &&& BitVec.ofInt k.bits b).toNat:Nat)
def orK (k:IntKind) (a b:Int):Int:=k.wrap ((BitVec.ofInt k.bits a ||| BitVec.ofInt k.bits b).toNat:Nat)
def XAU (k:IntKind) (a b:Int):Int:=k.wrap (a * 2 ^ (min b.toNat k.bits))
def Xyi (k:IntKind) (a b:Int):Int:=a.fdiv (2 ^ (min b.toNat k.bits))
theorem XsK {k:IntKind} {a b:Int} (ho:o.op=.binOp .and t x y ty) (hx:E.ev x=some (.v (.int k a))) (hy:E.ev y=some (.v (.int k b))):OpV P o E H (.v (.int k (Xsx k a b))):=X7 ho hx hy rfl rfl (fun w=>by
  simp [eqGuard_at_int,binOp_and,Op.intBits,Xsx]) rfl
theorem XqG {k:IntKind} {a b:Int} (ho:o.op=.binOp .or t x y ty) (hx:E.ev x=some (.v (.int k a))) (hy:E.ev y=some (.v (.int k b))):OpV P o E H (.v (.int k (orK k a b))):=X7 ho hx hy rfl rfl (fun w=>by
  simp [eqGuard_at_int,binOp_or,Op.intBits,orK]) rfl
theorem XwU {k j:IntKind} {a b:Int} (ho:o.op=.binOp .shl t x y ty) (hx:E.ev x=some (.v (.int k a))) (hy:E.ev y=some (.v (.int j b))) (hb:0≤b):OpV P o E H (.v (.int k (XAU k a b))):=X7 ho hx hy rfl rfl (fun w=>by
  have:¬ b < 0:=by omega
  simp [eqGuard,binOp_shl,Op.shift,this,XAU]) rfl
theorem XwT {k j:IntKind} {a b:Int} (ho:o.op=.binOp .shr t x y ty) (hx:E.ev x=some (.v (.int k a))) (hy:E.ev y=some (.v (.int j b))) (hb:0≤b):OpV P o E H (.v (.int k (Xyi k a b))):=X7 ho hx hy rfl rfl (fun w=>by
  have:¬ b < 0:=by omega
  simp [eqGuard,binOp_shr,Op.shift,this,Xyi]) rfl
theorem XsG {k:IntKind} {a b c:Int} (ho:o.op=.binOp .sub t x y ty) (hx:E.ev x=some (.v (.int k a))) (hy:E.ev y=some (.v (.int k b))) (h:k.wrap (a - b)=c):OpV P o E H (.v (.int k c)):=X7 ho hx hy rfl rfl (fun w=>by
  subst h
  simp [eqGuard_at_int,binOp_sub,Op.intArith]) rfl
end
end Go.Th
namespace Go.Proofs.YtlcphjcpoinolaaGreat
open Go.Th
theorem mixed:Tryz.prog.follows .mixedOrders=true:=by kernel_rfl
instance:HasU Tryz.prog 3 (.int .i64):=HasU.mk Tryz.underlying3
theorem Xza:(Tryz.prog.info? 3).map (fun i=>(i.zero,i.size,i.bytes))=some (some ((.int .i64 0)),1,8):=by kernel_rfl
instance:HasI Tryz.prog 3 1 8 [(.int .i64 0)]:=HasI.mk_of Xza rfl
instance:HasZ Tryz.prog 3 ((.int .i64 0)):=HasZ.mk_of Xza
instance:HasU Tryz.prog 4 (.bool):=HasU.mk Tryz.underlying4
theorem Xy6:(Tryz.prog.info? 4).map (fun i=>(i.zero,i.size,i.bytes))=some (some ((.bool false)),1,1):=by kernel_rfl
instance:HasI Tryz.prog 4 1 1 [(.bool false)]:=HasI.mk_of Xy6 rfl
instance:HasZ Tryz.prog 4 ((.bool false)):=HasZ.mk_of Xy6
instance:HasU Tryz.prog 5 (.int .u8):=HasU.mk Tryz.underlying5
theorem XBB:(Tryz.prog.info? 5).map (fun i=>(i.zero,i.size,i.bytes))=some (some ((.int .u8 0)),1,1):=by kernel_rfl
instance:HasI Tryz.prog 5 1 1 [(.int .u8 0)]:=HasI.mk_of XBB rfl
instance:HasU Tryz.prog 9 (.string):=HasU.mk Tryz.underlying9
theorem XBA:(Tryz.prog.info? 9).map (fun i=>(i.zero,i.size,i.bytes))=some (some ((.string .empty)),1,16):=by kernel_rfl
instance:HasI Tryz.prog 9 1 16 [(.string .empty)]:=HasI.mk_of XBA rfl
instance:HasU Tryz.prog 22 (.slice 46):=HasU.mk Tryz.underlying22
theorem Xzf:(Tryz.prog.info? 22).map (fun i=>(i.zero,i.size,i.bytes))=some (some ((.slice none 0 0)),1,24):=by kernel_rfl
instance:HasI Tryz.prog 22 1 24 [(.slice none 0 0)]:=HasI.mk_of Xzf rfl
instance:HasU Tryz.prog 23 (.slice 100):=HasU.mk Tryz.underlying23
theorem Xze:(Tryz.prog.info? 23).map (fun i=>(i.zero,i.size,i.bytes))=some (some ((.slice none 0 0)),1,24):=by kernel_rfl
instance:HasI Tryz.prog 23 1 24 [(.slice none 0 0)]:=HasI.mk_of Xze rfl
instance:HasU Tryz.prog 24 (.slice 103):=HasU.mk Tryz.underlying24
theorem Xzd:(Tryz.prog.info? 24).map (fun i=>(i.zero,i.size,i.bytes))=some (some ((.slice none 0 0)),1,24):=by kernel_rfl
instance:HasI Tryz.prog 24 1 24 [(.slice none 0 0)]:=HasI.mk_of Xzd rfl
instance:HasU Tryz.prog 26 (.struct #[{ name:= "Items",type:=22,offset:=0,embedded:=false,tag:= "",pkgPath:= "",byteOffset:=0 },{ name:= "Styles",type:=23,offset:=1,embedded:=false,tag:= "",pkgPath:= "",byteOffset:=24 },{ name:= "Lists",type:=24,offset:=2,embedded:=false,tag:= "",pkgPath:= "",byteOffset:=48 }]):=HasU.mk Tryz.underlying26
theorem Xzc:(Tryz.prog.info? 26).map (fun i=>(i.zero,i.size,i.bytes))=some (some (.agg #[(.slice none 0 0),(.slice none 0 0),(.slice none 0 0)]),3,72):=by kernel_rfl
instance:HasI Tryz.prog 26 3 72 [(.slice none 0 0),(.slice none 0 0),(.slice none 0 0)]:=HasI.mk_of Xzc rfl
instance:HasB Tryz.prog 26 [(0,1),(1,1),(2,1)]:=⟨_,Tryz.underlying26,by kernel_rfl⟩
instance:HasU Tryz.prog 29 (.int .i64):=HasU.mk Tryz.underlying29
theorem Xzb:(Tryz.prog.info? 29).map (fun i=>(i.zero,i.size,i.bytes))=some (some ((.int .i64 0)),1,8):=by kernel_rfl
instance:HasI Tryz.prog 29 1 8 [(.int .i64 0)]:=HasI.mk_of Xzb rfl
instance:HasU Tryz.prog 37 (.slice 183):=HasU.mk Tryz.underlying37
theorem Xy9:(Tryz.prog.info? 37).map (fun i=>(i.zero,i.size,i.bytes))=some (some ((.slice none 0 0)),1,24):=by kernel_rfl
instance:HasI Tryz.prog 37 1 24 [(.slice none 0 0)]:=HasI.mk_of Xy9 rfl
instance:HasU Tryz.prog 38 (.slice 199):=HasU.mk Tryz.underlying38
theorem Xy8:(Tryz.prog.info? 38).map (fun i=>(i.zero,i.size,i.bytes))=some (some ((.slice none 0 0)),1,24):=by kernel_rfl
instance:HasI Tryz.prog 38 1 24 [(.slice none 0 0)]:=HasI.mk_of Xy8 rfl
instance:HasU Tryz.prog 39 (.slice 203):=HasU.mk Tryz.underlying39
theorem Xy7:(Tryz.prog.info? 39).map (fun i=>(i.zero,i.size,i.bytes))=some (some ((.slice none 0 0)),1,24):=by kernel_rfl
instance:HasI Tryz.prog 39 1 24 [(.slice none 0 0)]:=HasI.mk_of Xy7 rfl
instance:HasU Tryz.prog 41 (.struct #[{ name:= "Ins",type:=3,offset:=0,embedded:=false,tag:= "",pkgPath:= "",byteOffset:=0 },{ name:= "Move",type:=3,offset:=1,embedded:=false,tag:= "",pkgPath:= "",byteOffset:=8 },{ name:= "Dels",type:=38,offset:=2,embedded:=false,tag:= "",pkgPath:= "",byteOffset:=16 },{ name:= "Layers",type:=39,offset:=3,embedded:=false,tag:= "",pkgPath:= "",byteOffset:=40 }]):=HasU.mk Tryz.underlying41
theorem Xy5:(Tryz.prog.info? 41).map (fun i=>(i.zero,i.size,i.bytes))=some (some (.agg #[(.int .i64 0),(.int .i64 0),(.slice none 0 0),(.slice none 0 0)]),4,64):=by kernel_rfl
instance:HasI Tryz.prog 41 4 64 [(.int .i64 0),(.int .i64 0),(.slice none 0 0),(.slice none 0 0)]:=HasI.mk_of Xy5 rfl
instance:HasB Tryz.prog 41 [(0,1),(1,1),(2,1),(3,1)]:=⟨_,Tryz.underlying41,by kernel_rfl⟩
instance:HasU Tryz.prog 43 (.struct #[{ name:= "Props",type:=37,offset:=0,embedded:=false,tag:= "",pkgPath:= "",byteOffset:=0 },{ name:= "Marks",type:=41,offset:=1,embedded:=false,tag:= "",pkgPath:= "",byteOffset:=24 }]):=HasU.mk Tryz.underlying43
theorem Xy4:(Tryz.prog.info? 43).map (fun i=>(i.zero,i.size,i.bytes))=some (some (.agg #[(.slice none 0 0),(.int .i64 0),(.int .i64 0),(.slice none 0 0),(.slice none 0 0)]),5,88):=by kernel_rfl
instance:HasI Tryz.prog 43 5 88 [(.slice none 0 0),(.int .i64 0),(.int .i64 0),(.slice none 0 0),(.slice none 0 0)]:=HasI.mk_of Xy4 rfl
instance:HasB Tryz.prog 43 [(0,1),(1,4)]:=⟨_,Tryz.underlying43,by kernel_rfl⟩
instance:HasU Tryz.prog 44 (.slice 94):=HasU.mk Tryz.underlying44
theorem Xy3:(Tryz.prog.info? 44).map (fun i=>(i.zero,i.size,i.bytes))=some (some ((.slice none 0 0)),1,24):=by kernel_rfl
instance:HasI Tryz.prog 44 1 24 [(.slice none 0 0)]:=HasI.mk_of Xy3 rfl
instance:HasU Tryz.prog 46 (.struct #[{ name:= "Kind",type:=3,offset:=0,embedded:=false,tag:= "",pkgPath:= "",byteOffset:=0 },{ name:= "Code",type:=3,offset:=1,embedded:=false,tag:= "",pkgPath:= "",byteOffset:=8 },{ name:= "Id",type:=3,offset:=2,embedded:=false,tag:= "",pkgPath:= "",byteOffset:=16 },{ name:= "Text",type:=9,offset:=3,embedded:=false,tag:= "",pkgPath:= "",byteOffset:=24 },{ name:= "Head",type:=43,offset:=4,embedded:=false,tag:= "",pkgPath:= "",byteOffset:=40 },{ name:= "Flow",type:=22,offset:=9,embedded:=false,tag:= "",pkgPath:= "",byteOffset:=128 },{ name:= "Rows",type:=44,offset:=10,embedded:=false,tag:= "",pkgPath:= "",byteOffset:=152 }]):=HasU.mk Tryz.underlying46
theorem Xy2:(Tryz.prog.info? 46).map (fun i=>(i.zero,i.size,i.bytes))=some (some (.agg #[(.int .i64 0),(.int .i64 0),(.int .i64 0),(.string .empty),(.slice none 0 0),(.int .i64 0),(.int .i64 0),(.slice none 0 0),(.slice none 0 0),(.slice none 0 0),(.slice none 0 0)]),11,176):=by kernel_rfl
instance:HasI Tryz.prog 46 11 176 [(.int .i64 0),(.int .i64 0),(.int .i64 0),(.string .empty),(.slice none 0 0),(.int .i64 0),(.int .i64 0),(.slice none 0 0),(.slice none 0 0),(.slice none 0 0),(.slice none 0 0)]:=HasI.mk_of Xy2 rfl
instance:HasB Tryz.prog 46 [(0,1),(1,1),(2,1),(3,1),(4,5),(9,1),(10,1)]:=⟨_,Tryz.underlying46,by kernel_rfl⟩
instance:HasU Tryz.prog 47 (.slice 133):=HasU.mk Tryz.underlying47
theorem Xy1:(Tryz.prog.info? 47).map (fun i=>(i.zero,i.size,i.bytes))=some (some ((.slice none 0 0)),1,24):=by kernel_rfl
instance:HasI Tryz.prog 47 1 24 [(.slice none 0 0)]:=HasI.mk_of Xy1 rfl
instance:HasU Tryz.prog 48 (.slice 138):=HasU.mk Tryz.underlying48
theorem Xy0:(Tryz.prog.info? 48).map (fun i=>(i.zero,i.size,i.bytes))=some (some ((.slice none 0 0)),1,24):=by kernel_rfl
instance:HasI Tryz.prog 48 1 24 [(.slice none 0 0)]:=HasI.mk_of Xy0 rfl
instance:HasU Tryz.prog 49 (.slice 141):=HasU.mk Tryz.underlying49
theorem XyZ:(Tryz.prog.info? 49).map (fun i=>(i.zero,i.size,i.bytes))=some (some ((.slice none 0 0)),1,24):=by kernel_rfl
instance:HasI Tryz.prog 49 1 24 [(.slice none 0 0)]:=HasI.mk_of XyZ rfl
instance:HasU Tryz.prog 51 (.struct #[{ name:= "Styles",type:=23,offset:=0,embedded:=false,tag:= "",pkgPath:= "",byteOffset:=0 },{ name:= "Lists",type:=24,offset:=1,embedded:=false,tag:= "",pkgPath:= "",byteOffset:=24 },{ name:= "Comments",type:=48,offset:=2,embedded:=false,tag:= "",pkgPath:= "",byteOffset:=48 },{ name:= "Vars",type:=49,offset:=3,embedded:=false,tag:= "",pkgPath:= "",byteOffset:=72 }]):=HasU.mk Tryz.underlying51
theorem XyY:(Tryz.prog.info? 51).map (fun i=>(i.zero,i.size,i.bytes))=some (some (.agg #[(.slice none 0 0),(.slice none 0 0),(.slice none 0 0),(.slice none 0 0)]),4,96):=by kernel_rfl
instance:HasI Tryz.prog 51 4 96 [(.slice none 0 0),(.slice none 0 0),(.slice none 0 0),(.slice none 0 0)]:=HasI.mk_of XyY rfl
instance:HasB Tryz.prog 51 [(0,1),(1,1),(2,1),(3,1)]:=⟨_,Tryz.underlying51,by kernel_rfl⟩
instance:HasU Tryz.prog 53 (.struct #[{ name:= "Flow",type:=22,offset:=0,embedded:=false,tag:= "",pkgPath:= "",byteOffset:=0 },{ name:= "End",type:=43,offset:=1,embedded:=false,tag:= "",pkgPath:= "",byteOffset:=24 },{ name:= "Revs",type:=47,offset:=6,embedded:=false,tag:= "",pkgPath:= "",byteOffset:=112 },{ name:= "Settings",type:=51,offset:=7,embedded:=false,tag:= "",pkgPath:= "",byteOffset:=136 }]):=HasU.mk Tryz.underlying53
theorem XyX:(Tryz.prog.info? 53).map (fun i=>(i.zero,i.size,i.bytes))=some (some (.agg #[(.slice none 0 0),(.slice none 0 0),(.int .i64 0),(.int .i64 0),(.slice none 0 0),(.slice none 0 0),(.slice none 0 0),(.slice none 0 0),(.slice none 0 0),(.slice none 0 0),(.slice none 0 0)]),11,232):=by kernel_rfl
instance:HasI Tryz.prog 53 11 232 [(.slice none 0 0),(.slice none 0 0),(.int .i64 0),(.int .i64 0),(.slice none 0 0),(.slice none 0 0),(.slice none 0 0),(.slice none 0 0),(.slice none 0 0),(.slice none 0 0),(.slice none 0 0)]:=HasI.mk_of XyX rfl
instance:HasB Tryz.prog 53 [(0,1),(1,5),(6,1),(7,4)]:=⟨_,Tryz.underlying53,by kernel_rfl⟩
instance:HasU Tryz.prog 57 (.slice 3):=HasU.mk Tryz.underlying57
theorem XyW:(Tryz.prog.info? 57).map (fun i=>(i.zero,i.size,i.bytes))=some (some ((.slice none 0 0)),1,24):=by kernel_rfl
instance:HasI Tryz.prog 57 1 24 [(.slice none 0 0)]:=HasI.mk_of XyW rfl
instance:HasU Tryz.prog 78 (.pointer 81):=HasU.mk Tryz.underlying78
theorem XyV:(Tryz.prog.info? 78).map (fun i=>(i.zero,i.size,i.bytes))=some (some ((.pointer none)),1,8):=by kernel_rfl
instance:HasI Tryz.prog 78 1 8 [(.pointer none)]:=HasI.mk_of XyV rfl
instance:HasU Tryz.prog 79 (.slice 5):=HasU.mk Tryz.underlying79
theorem XyU:(Tryz.prog.info? 79).map (fun i=>(i.zero,i.size,i.bytes))=some (some ((.slice none 0 0)),1,24):=by kernel_rfl
instance:HasI Tryz.prog 79 1 24 [(.slice none 0 0)]:=HasI.mk_of XyU rfl
theorem XyT:(Tryz.prog.info? 81).map (fun i=>(i.zero,i.size,i.bytes))=some (some (.agg #[(.pointer none),(.slice none 0 0)]),2,32):=by kernel_rfl
instance:HasI Tryz.prog 81 2 32 [(.pointer none),(.slice none 0 0)]:=HasI.mk_of XyT rfl
instance:HasB Tryz.prog 81 [(0,1),(1,1)]:=⟨_,Tryz.underlying81,by kernel_rfl⟩
instance:HasU Tryz.prog 92 (.slice 96):=HasU.mk Tryz.underlying92
theorem XyS:(Tryz.prog.info? 92).map (fun i=>(i.zero,i.size,i.bytes))=some (some ((.slice none 0 0)),1,24):=by kernel_rfl
instance:HasI Tryz.prog 92 1 24 [(.slice none 0 0)]:=HasI.mk_of XyS rfl
instance:HasU Tryz.prog 94 (.struct #[{ name:= "Head",type:=43,offset:=0,embedded:=false,tag:= "",pkgPath:= "",byteOffset:=0 },{ name:= "Cells",type:=92,offset:=5,embedded:=false,tag:= "",pkgPath:= "",byteOffset:=88 }]):=HasU.mk Tryz.underlying94
theorem XyR:(Tryz.prog.info? 94).map (fun i=>(i.zero,i.size,i.bytes))=some (some (.agg #[(.slice none 0 0),(.int .i64 0),(.int .i64 0),(.slice none 0 0),(.slice none 0 0),(.slice none 0 0)]),6,112):=by kernel_rfl
instance:HasI Tryz.prog 94 6 112 [(.slice none 0 0),(.int .i64 0),(.int .i64 0),(.slice none 0 0),(.slice none 0 0),(.slice none 0 0)]:=HasI.mk_of XyR rfl
instance:HasB Tryz.prog 94 [(0,5),(5,1)]:=⟨_,Tryz.underlying94,by kernel_rfl⟩
instance:HasU Tryz.prog 96 (.struct #[{ name:= "Id",type:=3,offset:=0,embedded:=false,tag:= "",pkgPath:= "",byteOffset:=0 },{ name:= "Head",type:=43,offset:=1,embedded:=false,tag:= "",pkgPath:= "",byteOffset:=8 },{ name:= "Flow",type:=22,offset:=6,embedded:=false,tag:= "",pkgPath:= "",byteOffset:=96 }]):=HasU.mk Tryz.underlying96
theorem XyQ:(Tryz.prog.info? 96).map (fun i=>(i.zero,i.size,i.bytes))=some (some (.agg #[(.int .i64 0),(.slice none 0 0),(.int .i64 0),(.int .i64 0),(.slice none 0 0),(.slice none 0 0),(.slice none 0 0)]),7,120):=by kernel_rfl
instance:HasI Tryz.prog 96 7 120 [(.int .i64 0),(.slice none 0 0),(.int .i64 0),(.int .i64 0),(.slice none 0 0),(.slice none 0 0),(.slice none 0 0)]:=HasI.mk_of XyQ rfl
instance:HasB Tryz.prog 96 [(0,1),(1,5),(6,1)]:=⟨_,Tryz.underlying96,by kernel_rfl⟩
instance:HasU Tryz.prog 100 (.struct #[{ name:= "Id",type:=3,offset:=0,embedded:=false,tag:= "",pkgPath:= "",byteOffset:=0 },{ name:= "Kind",type:=3,offset:=1,embedded:=false,tag:= "",pkgPath:= "",byteOffset:=8 },{ name:= "Name",type:=9,offset:=2,embedded:=false,tag:= "",pkgPath:= "",byteOffset:=16 },{ name:= "Base",type:=3,offset:=3,embedded:=false,tag:= "",pkgPath:= "",byteOffset:=32 },{ name:= "Next",type:=3,offset:=4,embedded:=false,tag:= "",pkgPath:= "",byteOffset:=40 },{ name:= "Props",type:=37,offset:=5,embedded:=false,tag:= "",pkgPath:= "",byteOffset:=48 }]):=HasU.mk Tryz.underlying100
theorem Xvi:(Tryz.prog.info? 100).map (fun i=>(i.zero,i.size,i.bytes))=some (some (.agg #[(.int .i64 0),(.int .i64 0),(.string .empty),(.int .i64 0),(.int .i64 0),(.slice none 0 0)]),6,72):=by kernel_rfl
instance:HasI Tryz.prog 100 6 72 [(.int .i64 0),(.int .i64 0),(.string .empty),(.int .i64 0),(.int .i64 0),(.slice none 0 0)]:=HasI.mk_of Xvi rfl
instance:HasB Tryz.prog 100 [(0,1),(1,1),(2,1),(3,1),(4,1),(5,1)]:=⟨_,Tryz.underlying100,by kernel_rfl⟩
instance:HasU Tryz.prog 101 (.slice 127):=HasU.mk Tryz.underlying101
theorem Xvh:(Tryz.prog.info? 101).map (fun i=>(i.zero,i.size,i.bytes))=some (some ((.slice none 0 0)),1,24):=by kernel_rfl
instance:HasI Tryz.prog 101 1 24 [(.slice none 0 0)]:=HasI.mk_of Xvh rfl
instance:HasU Tryz.prog 103 (.struct #[{ name:= "Id",type:=3,offset:=0,embedded:=false,tag:= "",pkgPath:= "",byteOffset:=0 },{ name:= "Levels",type:=101,offset:=1,embedded:=false,tag:= "",pkgPath:= "",byteOffset:=8 }]):=HasU.mk Tryz.underlying103
theorem Xvg:(Tryz.prog.info? 103).map (fun i=>(i.zero,i.size,i.bytes))=some (some (.agg #[(.int .i64 0),(.slice none 0 0)]),2,32):=by kernel_rfl
instance:HasI Tryz.prog 103 2 32 [(.int .i64 0),(.slice none 0 0)]:=HasI.mk_of Xvg rfl
instance:HasB Tryz.prog 103 [(0,1),(1,1)]:=⟨_,Tryz.underlying103,by kernel_rfl⟩
instance:HasU Tryz.prog 107 (.pointer 117):=HasU.mk Tryz.underlying107
theorem Xvf:(Tryz.prog.info? 107).map (fun i=>(i.zero,i.size,i.bytes))=some (some ((.pointer none)),1,8):=by kernel_rfl
instance:HasI Tryz.prog 107 1 8 [(.pointer none)]:=HasI.mk_of Xvf rfl
instance:HasU Tryz.prog 113 (.struct #[{ name:= "body",type:=4,offset:=0,embedded:=false,tag:= "",pkgPath:= "obelus/document",byteOffset:=0 },{ name:= "note",type:=4,offset:=1,embedded:=false,tag:= "",pkgPath:= "obelus/document",byteOffset:=1 },{ name:= "tables",type:=3,offset:=2,embedded:=false,tag:= "",pkgPath:= "obelus/document",byteOffset:=8 }]):=HasU.mk Tryz.underlying113
theorem Xve:(Tryz.prog.info? 113).map (fun i=>(i.zero,i.size,i.bytes))=some (some (.agg #[(.bool false),(.bool false),(.int .i64 0)]),3,16):=by kernel_rfl
instance:HasI Tryz.prog 113 3 16 [(.bool false),(.bool false),(.int .i64 0)]:=HasI.mk_of Xve rfl
instance:HasB Tryz.prog 113 [(0,1),(1,1),(2,1)]:=⟨_,Tryz.underlying113,by kernel_rfl⟩
instance:HasU Tryz.prog 114 (.map 3 3):=HasU.mk Tryz.underlying114
theorem Xvd:(Tryz.prog.info? 114).map (fun i=>(i.zero,i.size,i.bytes))=some (some ((.map none)),1,8):=by kernel_rfl
instance:HasI Tryz.prog 114 1 8 [(.map none)]:=HasI.mk_of Xvd rfl
instance:HasU Tryz.prog 115 (.map 3 4):=HasU.mk Tryz.underlying115
theorem Xvc:(Tryz.prog.info? 115).map (fun i=>(i.zero,i.size,i.bytes))=some (some ((.map none)),1,8):=by kernel_rfl
instance:HasI Tryz.prog 115 1 8 [(.map none)]:=HasI.mk_of Xvc rfl
theorem Xvb:(Tryz.prog.info? 117).map (fun i=>(i.zero,i.size,i.bytes))=some (some (.agg #[(.map none),(.map none),(.map none),(.map none),(.map none),(.int .i64 0)]),6,48):=by kernel_rfl
instance:HasI Tryz.prog 117 6 48 [(.map none),(.map none),(.map none),(.map none),(.map none),(.int .i64 0)]:=HasI.mk_of Xvb rfl
instance:HasB Tryz.prog 117 [(0,1),(1,1),(2,1),(3,1),(4,1),(5,1)]:=⟨_,Tryz.underlying117,by kernel_rfl⟩
instance:HasU Tryz.prog 123 (.struct #[{ name:= "head",type:=119,offset:=0,embedded:=false,tag:= "",pkgPath:= "obelus/fragment",byteOffset:=0 },{ name:= "keep",type:=120,offset:=1,embedded:=false,tag:= "",pkgPath:= "obelus/fragment",byteOffset:=8 },{ name:= "id",type:=121,offset:=2,embedded:=false,tag:= "",pkgPath:= "obelus/fragment",byteOffset:=16 }]):=HasU.mk Tryz.underlying123
theorem Xu7:(Tryz.prog.info? 123).map (fun i=>(i.zero,i.size,i.bytes))=some (some (.agg #[.nilFunc,.nilFunc,.nilFunc]),3,24):=by kernel_rfl
instance:HasI Tryz.prog 123 3 24 [.nilFunc,.nilFunc,.nilFunc]:=HasI.mk_of Xu7 rfl
instance:HasB Tryz.prog 123 [(0,1),(1,1),(2,1)]:=⟨_,Tryz.underlying123,by kernel_rfl⟩
instance:HasU Tryz.prog 127 (.struct #[{ name:= "Format",type:=3,offset:=0,embedded:=false,tag:= "",pkgPath:= "",byteOffset:=0 },{ name:= "Start",type:=3,offset:=1,embedded:=false,tag:= "",pkgPath:= "",byteOffset:=8 },{ name:= "Template",type:=9,offset:=2,embedded:=false,tag:= "",pkgPath:= "",byteOffset:=16 },{ name:= "Restart",type:=3,offset:=3,embedded:=false,tag:= "",pkgPath:= "",byteOffset:=32 }]):=HasU.mk Tryz.underlying127
theorem Xu6:(Tryz.prog.info? 127).map (fun i=>(i.zero,i.size,i.bytes))=some (some (.agg #[(.int .i64 0),(.int .i64 0),(.string .empty),(.int .i64 0)]),4,40):=by kernel_rfl
instance:HasI Tryz.prog 127 4 40 [(.int .i64 0),(.int .i64 0),(.string .empty),(.int .i64 0)]:=HasI.mk_of Xu6 rfl
instance:HasB Tryz.prog 127 [(0,1),(1,1),(2,1),(3,1)]:=⟨_,Tryz.underlying127,by kernel_rfl⟩
instance:HasU Tryz.prog 133 (.struct #[{ name:= "Id",type:=3,offset:=0,embedded:=false,tag:= "",pkgPath:= "",byteOffset:=0 },{ name:= "Author",type:=9,offset:=1,embedded:=false,tag:= "",pkgPath:= "",byteOffset:=8 },{ name:= "Time",type:=3,offset:=2,embedded:=false,tag:= "",pkgPath:= "",byteOffset:=24 }]):=HasU.mk Tryz.underlying133
theorem Xu5:(Tryz.prog.info? 133).map (fun i=>(i.zero,i.size,i.bytes))=some (some (.agg #[(.int .i64 0),(.string .empty),(.int .i64 0)]),3,32):=by kernel_rfl
instance:HasI Tryz.prog 133 3 32 [(.int .i64 0),(.string .empty),(.int .i64 0)]:=HasI.mk_of Xu5 rfl
instance:HasB Tryz.prog 133 [(0,1),(1,1),(2,1)]:=⟨_,Tryz.underlying133,by kernel_rfl⟩
instance:HasU Tryz.prog 138 (.struct #[{ name:= "Id",type:=3,offset:=0,embedded:=false,tag:= "",pkgPath:= "",byteOffset:=0 },{ name:= "Parent",type:=3,offset:=1,embedded:=false,tag:= "",pkgPath:= "",byteOffset:=8 },{ name:= "Author",type:=9,offset:=2,embedded:=false,tag:= "",pkgPath:= "",byteOffset:=16 },{ name:= "Time",type:=3,offset:=3,embedded:=false,tag:= "",pkgPath:= "",byteOffset:=32 },{ name:= "Text",type:=9,offset:=4,embedded:=false,tag:= "",pkgPath:= "",byteOffset:=40 },{ name:= "Done",type:=4,offset:=5,embedded:=false,tag:= "",pkgPath:= "",byteOffset:=56 }]):=HasU.mk Tryz.underlying138
theorem Xu4:(Tryz.prog.info? 138).map (fun i=>(i.zero,i.size,i.bytes))=some (some (.agg #[(.int .i64 0),(.int .i64 0),(.string .empty),(.int .i64 0),(.string .empty),(.bool false)]),6,64):=by kernel_rfl
instance:HasI Tryz.prog 138 6 64 [(.int .i64 0),(.int .i64 0),(.string .empty),(.int .i64 0),(.string .empty),(.bool false)]:=HasI.mk_of Xu4 rfl
instance:HasU Tryz.prog 141 (.struct #[{ name:= "Name",type:=9,offset:=0,embedded:=false,tag:= "",pkgPath:= "",byteOffset:=0 },{ name:= "Value",type:=9,offset:=1,embedded:=false,tag:= "",pkgPath:= "",byteOffset:=16 }]):=HasU.mk Tryz.underlying141
theorem Xu3:(Tryz.prog.info? 141).map (fun i=>(i.zero,i.size,i.bytes))=some (some (.agg #[(.string .empty),(.string .empty)]),2,32):=by kernel_rfl
instance:HasI Tryz.prog 141 2 32 [(.string .empty),(.string .empty)]:=HasI.mk_of Xu3 rfl
instance:HasU Tryz.prog 149 (.struct #[{ name:= "head",type:=119,offset:=0,embedded:=false,tag:= "",pkgPath:= "obelus/obeluslaw21",byteOffset:=0 },{ name:= "item",type:=147,offset:=1,embedded:=false,tag:= "",pkgPath:= "obelus/obeluslaw21",byteOffset:=8 },{ name:= "id",type:=121,offset:=2,embedded:=false,tag:= "",pkgPath:= "obelus/obeluslaw21",byteOffset:=16 }]):=HasU.mk Tryz.underlying149
theorem Xu1:(Tryz.prog.info? 149).map (fun i=>(i.zero,i.size,i.bytes))=some (some (.agg #[.nilFunc,.nilFunc,.nilFunc]),3,24):=by kernel_rfl
instance:HasI Tryz.prog 149 3 24 [.nilFunc,.nilFunc,.nilFunc]:=HasI.mk_of Xu1 rfl
instance:HasB Tryz.prog 149 [(0,1),(1,1),(2,1)]:=⟨_,Tryz.underlying149,by kernel_rfl⟩
instance:HasU Tryz.prog 170 (.pointer 5):=HasU.mk Tryz.underlying170
instance:HasU Tryz.prog 183 (.struct #[{ name:= "Key",type:=3,offset:=0,embedded:=false,tag:= "",pkgPath:= "",byteOffset:=0 },{ name:= "Value",type:=3,offset:=1,embedded:=false,tag:= "",pkgPath:= "",byteOffset:=8 }]):=HasU.mk Tryz.underlying183
theorem Xu0:(Tryz.prog.info? 183).map (fun i=>(i.zero,i.size,i.bytes))=some (some (.agg #[(.int .i64 0),(.int .i64 0)]),2,16):=by kernel_rfl
instance:HasI Tryz.prog 183 2 16 [(.int .i64 0),(.int .i64 0)]:=HasI.mk_of Xu0 rfl
instance:HasB Tryz.prog 183 [(0,1),(1,1)]:=⟨_,Tryz.underlying183,by kernel_rfl⟩
instance:HasU Tryz.prog 187 (.slice 29):=HasU.mk Tryz.underlying187
instance:HasU Tryz.prog 199 (.struct #[{ name:= "Rev",type:=3,offset:=0,embedded:=false,tag:= "",pkgPath:= "",byteOffset:=0 },{ name:= "Move",type:=3,offset:=1,embedded:=false,tag:= "",pkgPath:= "",byteOffset:=8 }]):=HasU.mk Tryz.underlying199
theorem XuZ:(Tryz.prog.info? 199).map (fun i=>(i.zero,i.size,i.bytes))=some (some (.agg #[(.int .i64 0),(.int .i64 0)]),2,16):=by kernel_rfl
instance:HasI Tryz.prog 199 2 16 [(.int .i64 0),(.int .i64 0)]:=HasI.mk_of XuZ rfl
instance:HasB Tryz.prog 199 [(0,1),(1,1)]:=⟨_,Tryz.underlying199,by kernel_rfl⟩
instance:HasU Tryz.prog 203 (.struct #[{ name:= "Rev",type:=3,offset:=0,embedded:=false,tag:= "",pkgPath:= "",byteOffset:=0 },{ name:= "Key",type:=3,offset:=1,embedded:=false,tag:= "",pkgPath:= "",byteOffset:=8 },{ name:= "Before",type:=3,offset:=2,embedded:=false,tag:= "",pkgPath:= "",byteOffset:=16 },{ name:= "Had",type:=4,offset:=3,embedded:=false,tag:= "",pkgPath:= "",byteOffset:=24 }]):=HasU.mk Tryz.underlying203
theorem XuY:(Tryz.prog.info? 203).map (fun i=>(i.zero,i.size,i.bytes))=some (some (.agg #[(.int .i64 0),(.int .i64 0),(.int .i64 0),(.bool false)]),4,32):=by kernel_rfl
instance:HasI Tryz.prog 203 4 32 [(.int .i64 0),(.int .i64 0),(.int .i64 0),(.bool false)]:=HasI.mk_of XuY rfl
instance:HasB Tryz.prog 203 [(0,1),(1,1),(2,1),(3,1)]:=⟨_,Tryz.underlying203,by kernel_rfl⟩
instance:HasU Tryz.prog 216 (.int .u64):=HasU.mk Tryz.underlying216
instance:HasU Tryz.prog 269 (.struct #[{ name:= "number",type:=3,offset:=0,embedded:=false,tag:= "",pkgPath:= "obelus/property",byteOffset:=0 },{ name:= "group",type:=3,offset:=1,embedded:=false,tag:= "",pkgPath:= "obelus/property",byteOffset:=8 },{ name:= "low",type:=3,offset:=2,embedded:=false,tag:= "",pkgPath:= "obelus/property",byteOffset:=16 },{ name:= "high",type:=3,offset:=3,embedded:=false,tag:= "",pkgPath:= "obelus/property",byteOffset:=24 },{ name:= "standard",type:=3,offset:=4,embedded:=false,tag:= "",pkgPath:= "obelus/property",byteOffset:=32 },{ name:= "name",type:=9,offset:=5,embedded:=false,tag:= "",pkgPath:= "obelus/property",byteOffset:=40 }]):=HasU.mk Tryz.underlying269
theorem XuX:(Tryz.prog.info? 269).map (fun i=>(i.zero,i.size,i.bytes))=some (some (.agg #[(.int .i64 0),(.int .i64 0),(.int .i64 0),(.int .i64 0),(.int .i64 0),(.string .empty)]),6,56):=by kernel_rfl
instance:HasI Tryz.prog 269 6 56 [(.int .i64 0),(.int .i64 0),(.int .i64 0),(.int .i64 0),(.int .i64 0),(.string .empty)]:=HasI.mk_of XuX rfl
instance:HasB Tryz.prog 269 [(0,1),(1,1),(2,1),(3,1),(4,1),(5,1)]:=⟨_,Tryz.underlying269,by kernel_rfl⟩
instance:HasU Tryz.prog 279 (.slice 284):=HasU.mk Tryz.underlying279
theorem XuW:(Tryz.prog.info? 279).map (fun i=>(i.zero,i.size,i.bytes))=some (some ((.slice none 0 0)),1,24):=by kernel_rfl
instance:HasI Tryz.prog 279 1 24 [(.slice none 0 0)]:=HasI.mk_of XuW rfl
instance:HasU Tryz.prog 284 (.struct #[{ name:= "Literal",type:=9,offset:=0,embedded:=false,tag:= "",pkgPath:= "",byteOffset:=0 },{ name:= "Level",type:=3,offset:=1,embedded:=false,tag:= "",pkgPath:= "",byteOffset:=16 },{ name:= "Plain",type:=4,offset:=2,embedded:=false,tag:= "",pkgPath:= "",byteOffset:=24 }]):=HasU.mk Tryz.underlying284
theorem XuV:(Tryz.prog.info? 284).map (fun i=>(i.zero,i.size,i.bytes))=some (some (.agg #[(.string .empty),(.int .i64 0),(.bool false)]),3,32):=by kernel_rfl
instance:HasI Tryz.prog 284 3 32 [(.string .empty),(.int .i64 0),(.bool false)]:=HasI.mk_of XuV rfl
instance:HasB Tryz.prog 284 [(0,1),(1,1),(2,1)]:=⟨_,Tryz.underlying284,by kernel_rfl⟩
instance:HasU Tryz.prog 286 (.slice 269):=HasU.mk Tryz.underlying286
instance:HasU Tryz.prog 302 (.int .u64):=HasU.mk Tryz.underlying302
theorem XuU:(Tryz.prog.info? 306).map (fun i=>(i.zero,i.size,i.bytes))=some (some (.agg #[(.string .empty),(.int .i64 0),(.pointer none),(.slice none 0 0),(.slice none 0 0),(.int .i64 0),(.int .i64 0)]),7,96):=by kernel_rfl
instance:HasI Tryz.prog 306 7 96 [(.string .empty),(.int .i64 0),(.pointer none),(.slice none 0 0),(.slice none 0 0),(.int .i64 0),(.int .i64 0)]:=HasI.mk_of XuU rfl
instance:HasB Tryz.prog 306 [(0,1),(1,1),(2,2),(4,1),(5,1),(6,1)]:=⟨_,Tryz.underlying306,by kernel_rfl⟩
end Go.Proofs.YtlcphjcpoinolaaGreat
namespace Go.Th
open Go.RowKit
section
variable {P:Program} {n:Nat} {fx:List Nat × List Nat} {gid:Nat→Nat} {l:List Oper} {acc:List PV} {Hs:Nat→Xi} {i:Nat} {o:Oper} {os:List Oper} {p:PV} {E:Env} {d:Nat} {K:Env→Prop}
theorem Xw0 {H:Xi} (c:Nat) (hf:fx.1.contains i=false) (h1:loF fx l i=c) (h2:hiF fx l i=c) (hH:Hs c=H) (hg:o.guard=none) (hl:(Xq o || fx.2.contains i)=false) (hd:o.dst=some d) (hn:d < n) (h:OpV P o (XK o E) H p)
    (k:DYF P n fx gid l Hs (i+1) os (p::acc) ((d,p)::E) K):DYF P n fx gid l Hs i (o::os) acc E K :=
  F_r c c hf h1 h2 hg hl hd hn (fun k a b=>by
    have e:k=c:=by omega
    rw [e,hH];exact h) k
theorem F_r2 {H H2:Xi} (c:Nat) (hf:fx.1.contains i=false) (h1:loF fx l i=c) (h2:hiF fx l i=c+1) (hH:Hs c=H) (hH2:Hs (c+1)=H2) (hg:o.guard=none) (hl:(Xq o || fx.2.contains i)=false) (hd:o.dst=some d) (hn:d < n) (h:OpV P o (XK o E) H p) (h':OpV P o (XK o E) H2 p)
    (k:DYF P n fx gid l Hs (i+1) os (p::acc) ((d,p)::E) K):DYF P n fx gid l Hs i (o::os) acc E K :=
  F_r c (c+1) hf h1 h2 hg hl hd hn (fun k a b=>by
    rcases (by omega:k=c∨k=c+1) with e | e
    · rw [e,hH];exact h
    · rw [e,hH2];exact h') k
theorem F_f1 {g:Nat} {B:Blk} {H:Xi} (c:Nat) (hf:fx.1.contains i=true) (hgi:gid i=g) (h1:loF fx l i=c) (h2:hiF fx l i=c) (hH:Hs c=H) (hg:o.guard=none) (hd:o.dst=some d) (hn:d < n) (h:OpF P o (XK o E) g B p) (hB:H[g]?=some (some B))
    (k:DYF P n fx gid l Hs (i+1) os (p::acc) ((d,p)::E) K):DYF P n fx gid l Hs i (o::os) acc E K :=
  F_f c c hf hgi h1 h2 hg hd hn h (fun k a b=>by
    have e:k=c:=by omega
    rw [e,hH];exact hB) k
theorem F_f2 {g:Nat} {B:Blk} {H H2:Xi} (c:Nat) (hf:fx.1.contains i=true) (hgi:gid i=g) (h1:loF fx l i=c) (h2:hiF fx l i=c+1) (hH:Hs c=H) (hH2:Hs (c+1)=H2) (hg:o.guard=none) (hd:o.dst=some d) (hn:d < n) (h:OpF P o (XK o E) g B p) (hB:H[g]?=some (some B)) (hB2:H2[g]?=some (some B))
    (k:DYF P n fx gid l Hs (i+1) os (p::acc) ((d,p)::E) K):DYF P n fx gid l Hs i (o::os) acc E K :=
  F_f c (c+1) hf hgi h1 h2 hg hd hn h (fun k a b=>by
    rcases (by omega:k=c∨k=c+1) with e | e
    · rw [e,hH];exact hB
    · rw [e,hH2];exact hB2) k
end
theorem Xtw {P:Program} {n:Nat} {Q:QA} {E:Env} {H:Xi} {c:Code} {cells:List PV} {len sz:Nat} (t:Nat) (ht:E.get t=some (.tr cells len sz)) (h:len≤9223372036854775807→wpA P n c Q E H):wpA P n c Q E H:=by
  rintro rd m0 w0 a w ⟨h1,h2,m,h3,h4,h5⟩
  refine h ?_ rd m0 w0 a w ⟨h1,h2,m,h3,h4,h5⟩
  have hr:=h5 t _ ht
  generalize a.tmps.getD t undef=v at hr
  have hl:len≤maxLen:=by
    cases hr with
    | tr f a b c d e g=>omega
    | tr0 a b=>exact Nat.zero_le _
    | trn=>exact Nat.zero_le _
  simp only [maxLen] at hl
  omega
inductive Bnd:PV→Prop
  | v (x:Value):Bnd (.v x)
  | ptr (id off:Nat):Bnd (.ptr id off)
  | sl (id off len sz:Nat):Bnd (.sl id off len sz)
  | ept {cells:List PV} (off:Nat) (k:∀ c ∈ cells,Bnd c):Bnd (.ept cells off)
  | tr {cells:List PV} {len:Nat} (sz:Nat) (h:len≤9223372036854775807) (k:∀ c ∈ cells,Bnd c):Bnd (.tr cells len sz)
  | fn {cells:List PV} (f:Fn) (k:∀ c ∈ cells,Bnd c):Bnd (.fn f cells)
  | agg {cells:List PV} (k:∀ c ∈ cells,Bnd c):Bnd (.agg cells)
  | tup {cells:List PV} (k:∀ c ∈ cells,Bnd c):Bnd (.tup cells)
  | mp (id:Nat):Bnd (.mp id)
  | it (id:Nat):Bnd (.it id)
  | yld (id:Nat):Bnd (.yld id)
theorem Rep.bnd {m:Mp} {w:World} {p:PV} {v:Value} (h:Rep m w p v):Bnd p:=by
  have mem:∀ (cells:List PV),(∀ (j:Nat) (c:PV),cells[j]?=some c→Bnd c)→∀ c ∈ cells,Bnd c:=fun cells k c hc=>by
    obtain ⟨j,hj⟩:=List.mem_iff_getElem?.1 hc
    exact k j c hj
  induction h with
  | v x _=>exact .v x
  | ptr _=>exact .ptr _ _
  | ept f _ _ _ ih=>exact .ept _ (mem _ ih)
  | sl _ _ _ _=>exact .sl _ _ _ _
  | sl0 _=>exact .sl _ _ _ _
  | tr f _ _ h1 h2 _ _ ih=>exact .tr _ (by simp only [maxLen] at h2;omega) (mem _ ih)
  | tr0 a _=>exact .tr _ (Nat.zero_le _) (fun c hc=>by cases hc)
  | trn=>exact .tr _ (Nat.zero_le _) (fun c hc=>by cases hc)
  | fn vs _ _ ih=>exact .fn _ (mem _ ih)
  | agg vs _ _ ih=>exact .agg (mem _ ih)
  | tup vs _ _ ih=>exact .tup (mem _ ih)
  | mp _=>exact .mp _
  | it _=>exact .it _
  | yld _=>exact .yld _
theorem Xtq {P:Program} {f:FuncId} {fn:Func} {args:List PV} {H:Xi} {Q:PV→Xi→Prop} {p:PV} (j:Nat) (hj:args[j]?=some p) (hf:P.funcs[f]?=some fn) (hn:(fn.name == "runtime.NumGoroutine")=false) (hb:fn.body.isNone=false)
    (k:Bnd p→AC P f args H Q):AC P f args H Q :=
  ⟨⟨fn,hf,hn,hb⟩,fun m w vals hR hr=>(k (hr.2 j _ hj).bnd).2 m w vals hR hr⟩
end Go.Th
namespace Go.Proofs.YtlcphjcpoinolaaGreat
open Go.RowKit Go.Th
def I (n:Int):PV:=.v (.int .i64 n)
def B (b:Bool):PV:=.v (.bool b)
def S (b:ByteArray):PV:=.v (.string b)
theorem Xe (n:Int):Xk (I n):=Xk.v _
theorem Xcv (b:Bool):Xk (B b):=Xk.v _
theorem Xad (b:ByteArray):Xk (S b):=Xk.v _
def XaE {α:Type} (enc:α→List PV) (sz:Nat) (l:List α):PV:=.tr (l.flatMap enc) l.length sz
theorem XaX {α:Type} {enc:α→List PV} {sz:Nat} {l:List α} (h:∀ x ∈ l,∀ c ∈ enc x,Xk c):Xk (XaE enc sz l):=Xk.tr fun c hc=>by
  obtain ⟨x,hx,hc⟩:=List.mem_flatMap.1 hc
  exact h x hx c hc
structure Prp where
  key:Int
  val:Int
structure Dl where
  rev:Int
  move:Int
structure Lyr where
  rev:Int
  key:Int
  before:Int
  had:Bool
structure Head where
  props:List Prp
  ins:Int
  move:Int
  dels:List Dl
  lyrs:List Lyr
mutual
inductive Item where
  | mk (kind code id:Int) (text:ByteArray) (head:Head) (flow:List Item) (rows:List Row)
inductive Row where
  | mk (head:Head) (cells:List Cell)
inductive Cell where
  | mk (id:Int) (head:Head) (flow:List Item)
end
structure Style where
  id:Int
  kind:Int
  name:ByteArray
  base:Int
  next:Int
  props:List Prp
structure Level where
  format:Int
  start:Int
  template:ByteArray
  restart:Int
structure Lst where
  id:Int
  levels:List Level
structure Comment where
  id:Int
  parent:Int
  author:ByteArray
  time:Int
  text:ByteArray
  done:Bool
structure Var where
  name:ByteArray
  value:ByteArray
structure Rev where
  id:Int
  author:ByteArray
  time:Int
structure Sets where
  styles:List Style
  lists:List Lst
  comments:List Comment
  vars:List Var
structure Doc where
  flow:List Item
  fin:Head
  revs:List Rev
  sets:Sets
def XaL (x:Prp):List PV:=[I x.key,I x.val]
def XcA (x:Dl):List PV:=[I x.rev,I x.move]
def Xaw (x:Lyr):List PV:=[I x.rev,I x.key,I x.before,B x.had]
def Xf (l:List Prp):PV:=XaE XaL 2 l
def Xm (l:List Dl):PV:=XaE XcA 2 l
def Xl (l:List Lyr):PV:=XaE Xaw 4 l
def XL (h:Head):List PV:=[Xf h.props,I h.ins,I h.move,Xm h.dels,Xl h.lyrs]
mutual
def Xo:Item→List PV
  | .mk k c i t h f r=>[I k,I c,I i,S t,Xf h.props,I h.ins,I h.move,Xm h.dels,Xl h.lyrs,.tr (Xc2 f) f.length 11,.tr (Xe0 r) r.length 6]
def Xc2:List Item→List PV
  | []=>[]
  | x::l=>Xo x++Xc2 l
def XT:Row→List PV
  | .mk h c=>[Xf h.props,I h.ins,I h.move,Xm h.dels,Xl h.lyrs,.tr (XdF c) c.length 7]
def Xe0:List Row→List PV
  | []=>[]
  | x::l=>XT x++Xe0 l
def XA:Cell→List PV
  | .mk i h f=>[I i,Xf h.props,I h.ins,I h.move,Xm h.dels,Xl h.lyrs,.tr (Xc2 f) f.length 11]
def XdF:List Cell→List PV
  | []=>[]
  | x::l=>XA x++XdF l
end
def Xh (l:List Item):PV:=XaE Xo 11 l
def XD (l:List Row):PV:=XaE XT 6 l
def Xak (l:List Cell):PV:=XaE XA 7 l
theorem Xe1:∀ l,Xc2 l=l.flatMap Xo
  | []=>rfl
  | x::l=>by rw [Xc2,Xe1 l];rfl
theorem Xin:∀ l,Xe0 l=l.flatMap XT
  | []=>rfl
  | x::l=>by rw [Xe0,Xin l];rfl
theorem Xhc:∀ l,XdF l=l.flatMap XA
  | []=>rfl
  | x::l=>by rw [XdF,Xhc l];rfl
theorem XG (k c i:Int) (t:ByteArray) (h:Head) (f:List Item) (r:List Row) :
    Xo (.mk k c i t h f r)=[I k,I c,I i,S t,Xf h.props,I h.ins,I h.move,Xm h.dels,Xl h.lyrs,Xh f,XD r]:=by
  rw [Xo,Xe1,Xin];rfl
theorem X0 (h:Head) (c:List Cell):XT (.mk h c)=[Xf h.props,I h.ins,I h.move,Xm h.dels,Xl h.lyrs,Xak c]:=by
  rw [XT,Xhc];rfl
theorem XW (i:Int) (h:Head) (f:List Item):XA (.mk i h f)=[I i,Xf h.props,I h.ins,I h.move,Xm h.dels,Xl h.lyrs,Xh f]:=by
  rw [XA,Xe1];rfl
theorem X4 (x:Item):(Xo x).length=11:=by cases x;rw [XG];rfl
theorem Xaq (x:Row):(XT x).length=6:=by cases x;rw [X0];rfl
theorem Xai (x:Cell):(XA x).length=7:=by cases x;rw [XW];rfl
def Xt (x:Style):List PV:=[I x.id,I x.kind,S x.name,I x.base,I x.next,Xf x.props]
def Xax (x:Level):List PV:=[I x.format,I x.start,S x.template,I x.restart]
def XcM (l:List Level):PV:=XaE Xax 4 l
def Xae (x:Lst):List PV:=[I x.id,XcM x.levels]
def Xar (x:Comment):List PV:=[I x.id,I x.parent,S x.author,I x.time,S x.text,B x.done]
def Xc1 (x:Var):List PV:=[S x.name,S x.value]
def Xco (x:Rev):List PV:=[I x.id,S x.author,I x.time]
def XN (l:List Style):PV:=XaE Xt 6 l
def Xbq (l:List Lst):PV:=XaE Xae 2 l
def Xah (l:List Comment):PV:=XaE Xar 6 l
def XdP (l:List Var):PV:=XaE Xc1 2 l
def Xdr (l:List Rev):PV:=XaE Xco 3 l
def XaI (s:Sets):List PV:=[XN s.styles,Xbq s.lists,Xah s.comments,XdP s.vars]
def X8 (d:Doc):List PV:=[Xh d.flow,Xf d.fin.props,I d.fin.ins,I d.fin.move,Xm d.fin.dels,Xl d.fin.lyrs,Xdr d.revs,XN d.sets.styles,Xbq d.sets.lists,Xah d.sets.comments,XdP d.sets.vars]
theorem XX (l:List Prp):Xk (Xf l):=XaX fun x _=>Xa (Xe _) (Xa (Xe _) Xs)
theorem XbJ (l:List Dl):Xk (Xm l):=XaX fun x _=>Xa (Xe _) (Xa (Xe _) Xs)
theorem XbI (l:List Lyr):Xk (Xl l):=XaX fun x _=>Xa (Xe _) (Xa (Xe _) (Xa (Xe _) (Xa (Xcv _) Xs)))
theorem Xbi (l:List Level):Xk (XcM l):=XaX fun x _=>Xa (Xe _) (Xa (Xe _) (Xa (Xad _) (Xa (Xe _) Xs)))
theorem XS (l:List Style):Xk (XN l):=XaX fun x _=>Xa (Xe _) (Xa (Xe _) (Xa (Xad _) (Xa (Xe _) (Xa (Xe _) (Xa (XX _) Xs)))))
theorem XaN (l:List Lst):Xk (Xbq l):=XaX fun x _=>Xa (Xe _) (Xa (Xbi _) Xs)
theorem XaO (l:List Comment):Xk (Xah l):=XaX fun x _=>Xa (Xe _) (Xa (Xe _) (Xa (Xad _) (Xa (Xe _) (Xa (Xad _) (Xa (Xcv _) Xs)))))
theorem Xb9 (l:List Var):Xk (XdP l):=XaX fun x _=>Xa (Xad _) (Xa (Xad _) Xs)
theorem Xba (l:List Rev):Xk (Xdr l):=XaX fun x _=>Xa (Xe _) (Xa (Xad _) (Xa (Xe _) Xs))
theorem X6 (h:Head):∀ c ∈ XL h,Xk c:=Xa (XX _) (Xa (Xe _) (Xa (Xe _) (Xa (XbJ _) (Xa (XbI _) Xs))))
mutual
theorem XaW:∀ x,∀ c ∈ Xo x,Xk c
  | .mk k c i t h f r=>by
    rw [Xo]
    exact Xa (Xe _) (Xa (Xe _) (Xa (Xe _) (Xa (Xad _) (Xa (XX _) (Xa (Xe _) (Xa (Xe _) (Xa (XbJ _) (Xa (XbI _)
      (Xa (Xk.tr (XeR f)) (Xa (Xk.tr (XhU r)) Xs))))))))))
theorem XeR:∀ l,∀ c ∈ Xc2 l,Xk c
  | []=>fun c hc=>by rw [Xc2] at hc;cases hc
  | x::l=>fun c hc=>by
    rw [Xc2] at hc
    rcases List.mem_append.1 hc with h | h
    · exact XaW x c h
    · exact XeR l c h
theorem Xbv:∀ x,∀ c ∈ XT x,Xk c
  | .mk h c=>by
    rw [XT]
    exact Xa (XX _) (Xa (Xe _) (Xa (Xe _) (Xa (XbJ _) (Xa (XbI _) (Xa (Xk.tr (Xgw c)) Xs)))))
theorem XhU:∀ l,∀ c ∈ Xe0 l,Xk c
  | []=>fun c hc=>by rw [Xe0] at hc;cases hc
  | x::l=>fun c hc=>by
    rw [Xe0] at hc
    rcases List.mem_append.1 hc with h | h
    · exact Xbv x c h
    · exact XhU l c h
theorem Xbn:∀ x,∀ c ∈ XA x,Xk c
  | .mk i h f=>by
    rw [XA]
    exact Xa (Xe _) (Xa (XX _) (Xa (Xe _) (Xa (Xe _) (Xa (XbJ _) (Xa (XbI _) (Xa (Xk.tr (XeR f)) Xs))))))
theorem Xgw:∀ l,∀ c ∈ XdF l,Xk c
  | []=>fun c hc=>by rw [XdF] at hc;cases hc
  | x::l=>fun c hc=>by
    rw [XdF] at hc
    rcases List.mem_append.1 hc with h | h
    · exact Xbn x c h
    · exact Xgw l c h
end
theorem XM (l:List Item):Xk (Xh l):=XaX fun x _=>XaW x
theorem Xca (l:List Row):Xk (XD l):=XaX fun x _=>Xbv x
theorem XeT (l:List Cell):Xk (Xak l):=XaX fun x _=>Xbn x
noncomputable def eqv {α:Type} (a b:α):Bool:=@decide (a=b) (Classical.propDecidable _)
theorem XaH {α:Type} {a b:α}:eqv a b=true↔a=b:=by unfold eqv;exact @decide_eq_true_iff _ (Classical.propDecidable _)
theorem Xc0 {α:Type} (a:α):eqv a a=true:=XaH.2 rfl
theorem XaJ {α:Type} {a b:α} (h:a≠b):eqv a b=false:=by
  cases e:eqv a b with
  | false=>rfl
  | true=>exact absurd (XaH.1 e) h
theorem Xg9 (a b:Int):decide (a=b)=eqv a b:=by rw [Bool.eq_iff_iff,XaH,decide_eq_true_iff]
theorem Xng {a b:ByteArray} (h:a.toList=b.toList):a=b:=by
  rw [ByteArray.toList_eq,ByteArray.toList_eq] at h
  obtain ⟨⟨x⟩⟩:=a
  obtain ⟨⟨y⟩⟩:=b
  simp only at h
  subst h;rfl
theorem Xee (a b:ByteArray):(a.toList == b.toList)=eqv a b:=by
  rw [Bool.eq_iff_iff,XaH]
  simp only [beq_iff_eq]
  exact ⟨Xng,fun h=>by rw [h]⟩
theorem Xcr {α:Type} {l m:List α} (h:l.length≠m.length):eqv l m=false:=XaJ fun e=>h (by rw [e])
theorem Xbz {α:Type} {l m:List α} {i:Nat} {x y:α} (hx:l[i]?=some x) (hy:m[i]?=some y):eqv (l.drop i) (m.drop i)=(eqv x y && eqv (l.drop (i+1)) (m.drop (i+1))):=by
  obtain ⟨l1,e1⟩:=List.getElem?_eq_some_iff.1 hx
  obtain ⟨l2,e2⟩:=List.getElem?_eq_some_iff.1 hy
  rw [List.drop_eq_getElem_cons l1,List.drop_eq_getElem_cons l2,e1,e2,Bool.eq_iff_iff,Bool.and_eq_true,XaH,XaH,XaH,List.cons.injEq]
theorem Xcs {α:Type} {l m:List α} {i:Nat} (h1:i=l.length) (h2:l.length=m.length):eqv (l.drop i) (m.drop i)=true:=by
  subst h1
  rw [List.drop_length,h2,List.drop_length];exact Xc0 _
theorem Xww (a b:Prp):eqv a b=(eqv a.key b.key && eqv a.val b.val):=by
  cases a;cases b;rw [Bool.eq_iff_iff];simp only [Bool.and_eq_true,XaH,Prp.mk.injEq]
theorem XAE (a b:Dl):eqv a b=(eqv a.rev b.rev && eqv a.move b.move):=by
  cases a;cases b;rw [Bool.eq_iff_iff];simp only [Bool.and_eq_true,XaH,Dl.mk.injEq]
theorem Xwx (a b:Lyr):eqv a b=(eqv a.rev b.rev && eqv a.key b.key && eqv a.before b.before && eqv a.had b.had):=by
  cases a;cases b;rw [Bool.eq_iff_iff];simp only [Bool.and_eq_true,XaH,Lyr.mk.injEq,and_assoc]
theorem Xr6 (a b:Head):eqv a b=(eqv a.props b.props && eqv a.ins b.ins && eqv a.move b.move && eqv a.dels b.dels && eqv a.lyrs b.lyrs):=by
  cases a;cases b;rw [Bool.eq_iff_iff];simp only [Bool.and_eq_true,XaH,Head.mk.injEq,and_assoc]
theorem Xp3 (a b:Style):eqv a b=(eqv a.id b.id && eqv a.kind b.kind && eqv a.name b.name && eqv a.base b.base && eqv a.next b.next && eqv a.props b.props):=by
  cases a;cases b;rw [Bool.eq_iff_iff];simp only [Bool.and_eq_true,XaH,Style.mk.injEq,and_assoc]
theorem Xp4 (a b:Level):eqv a b=(eqv a.format b.format && eqv a.start b.start && eqv a.template b.template && eqv a.restart b.restart):=by
  cases a;cases b;rw [Bool.eq_iff_iff];simp only [Bool.and_eq_true,XaH,Level.mk.injEq,and_assoc]
theorem Xwy (a b:Lst):eqv a b=(eqv a.id b.id && eqv a.levels b.levels):=by
  cases a;cases b;rw [Bool.eq_iff_iff];simp only [Bool.and_eq_true,XaH,Lst.mk.injEq]
theorem XlG (a b:Comment):eqv a b=(eqv a.id b.id && eqv a.parent b.parent && eqv a.author b.author && eqv a.time b.time && eqv a.text b.text && eqv a.done b.done):=by
  cases a;cases b;rw [Bool.eq_iff_iff];simp only [Bool.and_eq_true,XaH,Comment.mk.injEq,and_assoc]
theorem Xwt (a b:Var):eqv a b=(eqv a.name b.name && eqv a.value b.value):=by
  cases a;cases b;rw [Bool.eq_iff_iff];simp only [Bool.and_eq_true,XaH,Var.mk.injEq]
theorem Xwv (a b:Rev):eqv a b=(eqv a.id b.id && eqv a.author b.author && eqv a.time b.time):=by
  cases a;cases b;rw [Bool.eq_iff_iff];simp only [Bool.and_eq_true,XaH,Rev.mk.injEq,and_assoc]
theorem Xwz (a b:Doc):eqv a b=(eqv a.flow b.flow && eqv a.fin b.fin && eqv a.revs b.revs && eqv a.sets.styles b.sets.styles && eqv a.sets.lists b.sets.lists && eqv a.sets.comments b.sets.comments && eqv a.sets.vars b.sets.vars):=by
  obtain ⟨_,_,_,⟨_,_,_,_⟩⟩:=a;obtain ⟨_,_,_,⟨_,_,_,_⟩⟩:=b;rw [Bool.eq_iff_iff];simp only [Bool.and_eq_true,XaH,Doc.mk.injEq,Sets.mk.injEq,and_assoc]
theorem Xr5 (k c i k' c' i':Int) (t t':ByteArray) (h h':Head) (f f':List Item) (r r':List Row):eqv (Item.mk k c i t h f r) (Item.mk k' c' i' t' h' f' r')=(eqv k k' && eqv c c' && eqv i i' && eqv t t' && eqv h h' && eqv f f' && eqv r r'):=by
  rw [Bool.eq_iff_iff];simp only [Bool.and_eq_true,XaH,Item.mk.injEq,and_assoc]
theorem Xwu (h h':Head) (c c':List Cell):eqv (Row.mk h c) (Row.mk h' c')=(eqv h h' && eqv c c'):=by
  rw [Bool.eq_iff_iff];simp only [Bool.and_eq_true,XaH,Row.mk.injEq]
theorem Xr7 (i i':Int) (h h':Head) (f f':List Item):eqv (Cell.mk i h f) (Cell.mk i' h' f')=(eqv i i' && eqv h h' && eqv f f'):=by
  rw [Bool.eq_iff_iff];simp only [Bool.and_eq_true,XaH,Cell.mk.injEq,and_assoc]
theorem Xd:Has [] []:=Has.nil []
theorem Xbg {P:Program} {f:FuncId} {fn:Func} {args:List PV} {Q:PV→Prop} {cells:List PV} {len sz:Nat} (j:Nat) (hj:args[j]?=some (.tr cells len sz)) (hf:P.funcs[f]?=some fn) (hn:(fn.name == "runtime.NumGoroutine")=false) (hb:fn.body.isNone=false)
    (k:len≤9223372036854775807→Iso P f args Q):Iso P f args Q:=by
  refine ⟨⟨fn,hf,hn,hb⟩,fun m w vals h1 h2 h3 hr=>?_⟩
  have h:=hr.2 j _ hj
  have hl:len≤maxLen:=by
    generalize vals.getD j undef=v at h
    cases h with
    | tr f a b c d e g=>omega
    | tr0 a b=>exact Nat.zero_le _
    | trn=>exact Nat.zero_le _
  exact (k (by simp only [maxLen] at hl;omega)).2 m w vals h1 h2 h3 hr
section
variable {P:Program} {o:Oper} {E:Env} {H:Xi}
theorem Xul {P:Program} {t:TypeId} {x y:Operand} (w:World) (a b:ByteArray):(do eqGuard .eql t x y (.string a) (.string b);binOp .eql t (.string a) (.string b):Sem Value).run P w=.ok (.bool (a.toList == b.toList)) w:=rfl
theorem XwV {t ty:TypeId} {x y:Operand} {a b:ByteArray} (ho:o.op=.binOp .eql t x y ty) (hx:E.ev x=some (.v (.string a))) (hy:E.ev y=some (.v (.string b))):OpV P o E H (.v (.bool (a.toList == b.toList))) :=
  X7 ho hx hy rfl rfl (fun w=>Xul w a b) rfl
end
theorem XiX {l:List Item} {i:Nat} {k c d:Int} {t:ByteArray} {h:Head} {f:List Item} {r:List Row} (hx:l[i]?=some (.mk k c d t h f r)) :
    Xav 11 ((l.flatMap Xo).drop (i * 11))=some [I k,I c,I d,S t,Xf h.props,I h.ins,I h.move,Xm h.dels,Xl h.lyrs,Xh f,XD r]:=by
  rw [Xp X4 l i _ hx,XG]
theorem Xmt {l:List Row} {i:Nat} {h:Head} {c:List Cell} (hx:l[i]?=some (.mk h c)) :
    Xav 6 ((l.flatMap XT).drop (i * 6))=some [Xf h.props,I h.ins,I h.move,Xm h.dels,Xl h.lyrs,Xak c]:=by
  rw [Xp Xaq l i _ hx,X0]
theorem Xjq {l:List Cell} {i:Nat} {d:Int} {h:Head} {f:List Item} (hx:l[i]?=some (.mk d h f)) :
    Xav 7 ((l.flatMap XA).drop (i * 7))=some [I d,Xf h.props,I h.ins,I h.move,Xm h.dels,Xl h.lyrs,Xh f]:=by
  rw [Xp Xai l i _ hx,XW]
end Go.Proofs.YtlcphjcpoinolaaGreat
namespace Go.Th
open Go.RowKit
section
variable {P:Program} {n:Nat} {Q:QA} {E:Env} {H:Xi} {ops:Array Oper} {rest:List Oper}
theorem XqS {t e:TypeId} [hu:HasU P t (.slice e)] {o:Oper} {d sz len:Nat} {cells:List PV} {x:Operand} {ty:TypeId} (hg:o.guard=none) (ho:o.op=.binOp .eql t x (.const (.slice none 0 0)) ty) (hx:E.ev x=some (.tr cells len sz)) (hd:o.dst=some d) (hn:d < n)
    (h:∀ b,(b=true→len=0)→wpL P n ops rest Q ((d,.v (.bool b))::E) H):wpL P n ops (o::rest) Q E H:=by
  rintro rd m0 w0 a w ⟨h1,h2,m,h3,h4,h5⟩
  have hr:=h5.ev hx
  obtain ⟨s,l,c,hs,h0⟩:∃ s l c,a.eval x=.slice s l c∧(s.isNone=true→len=0):=by
    generalize a.eval x=v at hr
    cases hr with
    | tr f _ _ _ _ _ _=>exact ⟨_,_,_,rfl,fun h=>by simp at h⟩
    | tr0 a _=>exact ⟨_,_,_,rfl,fun _=>rfl⟩
    | trn=>exact ⟨_,_,_,rfl,fun _=>rfl⟩
  refine wpListIn_plain hg fun K hK=>?_
  have hc:a.eval (.const (.slice none 0 0))=.slice none 0 0:=rfl
  have hrun:(execOp a.eval o).run P w=.ok (.value (.bool s.isNone)) w:=by
    simp [execOp,ho,hs,hc,eqGuard,binOp,Op.equal,Op.maxDepth,run_equalIn_slice_nil w 9999 t e s l c hu.u]
  refine Xdu hrun ?_
  rw [hd]
  exact hK _ _ (h s.isNone h0 rd m0 w0 (a.put (some d) (.bool s.isNone)) w ⟨by simp [Act.put,h1],h2,m,h3,h4,h5.put (by omega) (.v _ rfl)⟩)
end
def XeN (cells:List PV) (e n sz:Nat) (p:PV) (G:Xi):Prop:=∃ o,p=.sl o 0 n sz∧G[o]?=some (some ⟨cells,e,true⟩)
theorem XsY {P:Program} {f:FuncId} {args cells:List PV} {e n sz:Nat} (h:AC P f args [] (XeN cells e n sz)) (ht:∀ c ∈ args,Xk c) (htc:∀ c ∈ cells,Xk c) (H:Xi) :
    AC P f args H (fun p H'=>p=.sl H.length 0 n sz∧H'=H++[some ⟨cells,e,true⟩]):=by
  refine ⟨h.1,fun m w vals hR hv=>?_⟩
  have hR0:R { blk:=fun _=>none,ro:=m.ro,keep:=fun b=>b < w.heap.size } [] w:=R.nil (fun b hb=>hR.kl b (hR.rk b hb)) (fun b hb=>hb) (fun _=>rfl) rfl
  have hv':Xek { blk:=fun _=>none,ro:=m.ro,keep:=fun b=>b < w.heap.size } w args vals:=⟨hv.1,fun j c hj=>by
    have h1:=ht c (List.mem_of_getElem? hj) m w _ (hv.2 j c hj)
    exact Rep.mono' (m:={ m with blk:=fun _=>none }) (m':={ blk:=fun _=>none,ro:=m.ro,keep:=fun b=>b < w.heap.size }) (w':=w) (fun _ _ h=>h) (fun _ h=>h) (fun _ _ _=>rfl) h1⟩
  refine (h.2 _ w vals hR0 hv').mono ?_
  rintro en w' ⟨v,p,G,m',rfl,⟨o,rfl,hB⟩,hr,hR',hle⟩
  have hsame:∀ b,b < w.heap.size→w'.heap[b]?=w.heap[b]?:=fun b hb=>hle.same b hb
  have hfresh:∀ b,m'.ro b→m.ro b∨w.heap.size≤b:=fun b hb=>(hle.fresh b hb).elim .inl (fun h=>.inr (Nat.le_of_not_lt h))
  have hro:∀ b,m.ro b→m'.ro b:=fun b hb=>hle.ro b hb
  have hrolt:∀ b,m.ro b→b < w.heap.size:=fun b hb=>hR.kl b (hR.rk b hb)
  have gen:∀ (nb:Option (Nat × Nat × Nat)),(∀ x,nb=some x→w.heap.size≤x.1) →
      (∀ b d lim,nb=some (b,d,lim)→True∧Xep { blk:=fun i=>if i=H.length then nb else m.blk i,ro:=m'.ro,keep:=fun k=>m.keep k∨m'.ro k,top:=m.top } w' ⟨cells,e,true⟩ b d lim∧¬ m'.ro b) →
      Le m w { blk:=fun i=>if i=H.length then nb else m.blk i,ro:=m'.ro,keep:=fun k=>m.keep k∨m'.ro k,top:=m.top } w' ∧
      R { blk:=fun i=>if i=H.length then nb else m.blk i,ro:=m'.ro,keep:=fun k=>m.keep k∨m'.ro k,top:=m.top } (H++[some ⟨cells,e,true⟩]) w':=by
    intro nb hnb hblk
    have hmono:∀ id x,m.blk id=some x→(if id=H.length then nb else m.blk id)=some x:=fun id x hx=>by
      have:=hR.dom id x hx
      rw [if_neg (by omega)];exact hx
    have hrep:∀ c v,Rep m w c v→Rep { blk:=fun i=>if i=H.length then nb else m.blk i,ro:=m'.ro,keep:=fun k=>m.keep k∨m'.ro k,top:=m.top } w' c v:=fun c v hr =>
      Rep.mono' (m:=m) (w:=w) (m':={ blk:=fun i=>if i=H.length then nb else m.blk i,ro:=m'.ro,keep:=fun k=>m.keep k∨m'.ro k,top:=m.top }) (w':=w') hmono hro (fun b x hb=>World.cell?_of_block (hsame b (hrolt b hb))) hr
    refine ⟨⟨hmono,hro,fun b hb=>.inl hb,fun b hb=>hsame b (hR.kl b hb),hle.size,hle.os,hle.tape,hle.output,fun b hb=>(hfresh b hb).elim .inl (fun h=>.inr fun h2=>by have:=hR.kl b h2;omega),rfl,fun id hid=>?_⟩,?_⟩
    · have:=hR.top
      show (if id=H.length then nb else m.blk id)=m.blk id
      rw [if_neg (by omega)]
    · have live:∀ (i:Nat) (C:Blk) x,(H++[some ⟨cells,e,true⟩])[i]?=some (some C)→i≠H.length→(if i=H.length then nb else m.blk i)=some x→H[i]?=some (some C)∧m.blk i=some x:=fun i C x hi hne hm=>by
        rw [if_neg hne] at hm
        have:=hR.dom i x hm
        rw [List.getElem?_append_left this] at hi
        exact ⟨hi,hm⟩
      refine ⟨fun b hb=>.inr hb,fun b hb=>?_,fun i x hx=>?_,fun i C b d lim hi hm=>?_,fun i j C D bi di li bj dj lj hne hi hj ho1 ho2 hmi hmj=>?_,?_⟩
      · rcases hb with hb | hb
        · have:=hR.kl b hb;have:=hle.size;omega
        · exact hR'.kl b (hR'.rk b hb)
      · simp only [List.length_append,List.length_cons,List.length_nil]
        by_cases e1:i=H.length
        · omega
        · have hx':m.blk i=some x:=by simpa [e1] using hx
          have:=hR.dom i x hx';omega
      · by_cases e1:i=H.length
        · subst e1
          have hi':C=⟨cells,e,true⟩:=by simpa using hi.symm
          subst hi'
          have hm':nb=some (b,d,lim):=by simpa using hm
          obtain ⟨h0,h1,h2⟩:=hblk b d lim hm'
          refine ⟨h0,h1,fun _ hk=>?_,fun h=>by cases h⟩
          rcases hk with hk | hk
          · have h3:=hR.kl b hk
            have h4:=hnb _ hm'
            simp only at h4
            omega
          · exact h2 hk
        · obtain ⟨hi',hm'⟩:=live i C _ hi e1 hm
          obtain ⟨h0,⟨cur,c1,c2,c3,c4⟩,h5,h6⟩:=hR.blk i C b d lim hi' hm'
          have hlt:=hR.lt hi' hm'
          refine ⟨h0,⟨cur,by rw [hsame b hlt];exact c1,c2,c3,fun j c hj=>let ⟨u,u1,u2,u3⟩:=c4 j c hj;⟨u,u1,hrep c u u2,u3⟩⟩,fun ho hk=>?_,fun ho=>hro b (h6 ho)⟩
          rcases hk with hk | hk
          · exact h5 ho hk
          · rcases hfresh b hk with hk | hk
            · exact h5 ho (hR.rk b hk)
            · omega
      · by_cases ei:i=H.length
        · have ej:j≠H.length:=fun e=>hne (by rw [ei,e])
          obtain ⟨hj',hmj'⟩:=live j D _ hj ej hmj
          have h1:=hR.lt hj' hmj'
          have hmi':nb=some (bi,di,li):=by simpa [ei] using hmi
          have h2:=hnb _ hmi'
          simp only at h2
          omega
        · obtain ⟨hi',hmi'⟩:=live i C _ hi ei hmi
          by_cases ej:j=H.length
          · have h1:=hR.lt hi' hmi'
            have hmj':nb=some (bj,dj,lj):=by simpa [ej] using hmj
            have h2:=hnb _ hmj'
            simp only at h2
            omega
          · obtain ⟨hj',hmj'⟩:=live j D _ hj ej hmj
            exact hR.inj i j C D _ _ _ _ _ _ hne hi' hj' ho1 ho2 hmi' hmj'
      · have:=hR.top
        simp only [List.length_append,List.length_cons,List.length_nil]
        omega
  cases hr with
  | @sl _ _ _ _ b lim cap hm a1 a2 a3 =>
    obtain ⟨_,⟨cur,c1,c2,c3,c4⟩,hk1,_⟩:=hR'.blk o _ b 0 lim hB hm
    have hnk:=hk1 rfl
    have hge:w.heap.size≤b:=Nat.le_of_not_lt fun hlt=>hnk (hle.keep b hlt)
    obtain ⟨g1,g2⟩:=gen (some (b,0,lim)) (fun x hx=>by cases hx;exact hge) (fun b' d' lim' hx=>by
      cases hx
      refine ⟨trivial,⟨cur,c1,c2,c3,fun j c hj=>?_⟩,fun hro'=>hnk (hR'.rk b hro')⟩
      obtain ⟨u,u1,u2,u3⟩:=c4 j c hj
      refine ⟨u,u1,?_,u3⟩
      have:=htc c (List.mem_of_getElem? hj) m' w' u u2
      refine Rep.mono' (m:={ m' with blk:=fun _=>none }) (w:=w') (w':=w') ?_ ?_ (fun _ _ _=>rfl) this
      · intro id x hx;cases hx
      · intro b hb;exact hb)
    exact ⟨_,_,_,_,rfl,⟨rfl,rfl⟩,.sl (off:=0) (lim:=lim) (by simp) a1 a2 a3,g2,g1⟩
  | sl0 a =>
    obtain ⟨g1,g2⟩:=gen none (fun x hx=>by cases hx) (fun b d lim hx=>by cases hx)
    exact ⟨_,_,_,_,rfl,⟨rfl,rfl⟩,.sl0 a,g2,g1⟩
end Go.Th
namespace Go.Proofs.YtlcphjcpoinolaaGreat
open Go.RowKit Go.Th
set_option maxRecDepth 20000
theorem XF {α:Type} {enc:α→List PV} {sz:Nat} (h:∀ x,(enc x).length=sz):∀ l:List α,(l.flatMap enc).length=l.length * sz
  | []=>by simp
  | x::l=>by rw [List.flatMap_cons,List.length_append,h,XF h l,List.length_cons,Nat.add_mul,Nat.one_mul,Nat.add_comm]
theorem Xcz {α:Type} {enc:α→List PV} (h:∀ x,(enc x).all XZ=true) (l:List α):(l.flatMap enc).all XZ=true:=List.all_eq_true.2 fun c hc=>by
  obtain ⟨x,_,hx⟩:=List.mem_flatMap.1 hc
  exact List.all_eq_true.1 (h x) c hx
theorem XeN.conv {α:Type} {enc:α→List PV} {l:List α} {e sz:Nat} {p:PV} {G:Xi} (ht:∀ x ∈ l,∀ c ∈ enc x,Xk c) (hl:(l.flatMap enc).length=l.length * sz) (h:XeN (l.flatMap enc) e l.length sz p G):∃ q,Conv G p q∧Xk q∧q=XaE enc sz l:=by
  obtain ⟨o,rfl,hG⟩:=h
  exact ⟨XaE enc sz l,.sl hG (XjO (by simpa using hl)) rfl (fun j c d hc hd=>by rw [hc] at hd;cases hd;exact .refl _),XaX ht,rfl⟩
theorem XyO (x:Prp):(XaL x).length=2:=by cases x;rfl
theorem XBp (x:Prp):(XaL x).all XZ=true:=by cases x;rfl
set_option maxHeartbeats 4000000 in
theorem XwM (l:List Prp) (hl:l.length≤1000000):AC Tryz.prog 141 [XaE XaL 2 l] [] (XeN (l.flatMap XaL) 183 l.length 2):=by
  have hG:=Xd
  have ho:=Xcz XBp l
  have hn:=XF XyO l
  refine Xv Tryz.func141 rfl rfl rfl ?_
  repeat(first|refine Zes ?_)
  refine ZaF ?_
  intro b hb
  cases b with
  | true =>
    have e0:l=[]:=List.length_eq_zero_iff.1 (hb rfl)
    subst e0
    refine Za ?_
    refine ZaG ?_
    refine Zc ?_
    refine Zb ?_
    repeat(first|refine Zd ?_)
    refine Za ?_
    refine X1 2 183 2 hG rfl ?_
    intro id G hG
    repeat(first|refine Zes ?_)
    exact ZaH
  | false =>
    repeat(first|refine Zes ?_|(refine ZaI ?_;intro id2 G hG)|(refine ZO ?_;intro id G hG))
    have e:0+l.length=l.length:=by omega
    rw [e] at *
    exact ZaJ
theorem XyN (x:Dl):(XcA x).length=2:=by cases x;rfl
theorem XBo (x:Dl):(XcA x).all XZ=true:=by cases x;rfl
set_option maxHeartbeats 4000000 in
theorem XwL (l:List Dl) (hl:l.length≤1000000):AC Tryz.prog 142 [XaE XcA 2 l] [] (XeN (l.flatMap XcA) 199 l.length 2):=by
  have hG:=Xd
  have ho:=Xcz XBo l
  have hn:=XF XyN l
  refine Xv Tryz.func142 rfl rfl rfl ?_
  repeat(first|refine Zes ?_)
  refine ZaF ?_
  intro b hb
  cases b with
  | true =>
    have e0:l=[]:=List.length_eq_zero_iff.1 (hb rfl)
    subst e0
    refine Za ?_
    refine ZaG ?_
    refine Zc ?_
    refine Zb ?_
    repeat(first|refine Zd ?_)
    refine Za ?_
    refine X1 2 199 2 hG rfl ?_
    intro id G hG
    repeat(first|refine Zes ?_)
    exact ZaH
  | false =>
    repeat(first|refine Zes ?_|(refine ZaI ?_;intro id2 G hG)|(refine ZO ?_;intro id G hG))
    have e:0+l.length=l.length:=by omega
    rw [e] at *
    exact ZaJ
theorem XyM (x:Lyr):(Xaw x).length=4:=by cases x;rfl
theorem XBn (x:Lyr):(Xaw x).all XZ=true:=by cases x;rfl
set_option maxHeartbeats 4000000 in
theorem XwK (l:List Lyr) (hl:l.length≤1000000):AC Tryz.prog 143 [XaE Xaw 4 l] [] (XeN (l.flatMap Xaw) 203 l.length 4):=by
  have hG:=Xd
  have ho:=Xcz XBn l
  have hn:=XF XyM l
  refine Xv Tryz.func143 rfl rfl rfl ?_
  repeat(first|refine Zes ?_)
  refine ZaF ?_
  intro b hb
  cases b with
  | true =>
    have e0:l=[]:=List.length_eq_zero_iff.1 (hb rfl)
    subst e0
    refine Za ?_
    refine ZaG ?_
    refine Zc ?_
    refine Zb ?_
    repeat(first|refine Zd ?_)
    refine Za ?_
    refine X1 2 203 4 hG rfl ?_
    intro id G hG
    repeat(first|refine Zes ?_)
    exact ZaH
  | false =>
    repeat(first|refine Zes ?_|(refine ZaI ?_;intro id2 G hG)|(refine ZO ?_;intro id G hG))
    have e:0+l.length=l.length:=by omega
    rw [e] at *
    exact ZaJ
theorem Xpo (x:Style):(Xt x).length=6:=by cases x;rfl
theorem XyF (x:Style):(Xt x).all XZ=true:=by cases x;rfl
set_option maxHeartbeats 4000000 in
theorem Xsp (l:List Style) (hl:l.length≤1000000):AC Tryz.prog 160 [XaE Xt 6 l] [] (XeN (l.flatMap Xt) 100 l.length 6):=by
  have hG:=Xd
  have ho:=Xcz XyF l
  have hn:=XF Xpo l
  refine Xv Tryz.func160 rfl rfl rfl ?_
  repeat(first|refine Zes ?_)
  refine ZaF ?_
  intro b hb
  cases b with
  | true =>
    have e0:l=[]:=List.length_eq_zero_iff.1 (hb rfl)
    subst e0
    refine Za ?_
    refine ZaG ?_
    refine Zc ?_
    refine Zb ?_
    repeat(first|refine Zd ?_)
    refine Za ?_
    refine X1 2 100 6 hG rfl ?_
    intro id G hG
    repeat(first|refine Zes ?_)
    exact ZaH
  | false =>
    repeat(first|refine Zes ?_|(refine ZaI ?_;intro id2 G hG)|(refine ZO ?_;intro id G hG))
    have e:0+l.length=l.length:=by omega
    rw [e] at *
    exact ZaJ
theorem Xpn (x:Lst):(Xae x).length=2:=by cases x;rfl
theorem XyE (x:Lst):(Xae x).all XZ=true:=by cases x;rfl
set_option maxHeartbeats 4000000 in
theorem Xso (l:List Lst) (hl:l.length≤1000000):AC Tryz.prog 161 [XaE Xae 2 l] [] (XeN (l.flatMap Xae) 103 l.length 2):=by
  have hG:=Xd
  have ho:=Xcz XyE l
  have hn:=XF Xpn l
  refine Xv Tryz.func161 rfl rfl rfl ?_
  repeat(first|refine Zes ?_)
  refine ZaF ?_
  intro b hb
  cases b with
  | true =>
    have e0:l=[]:=List.length_eq_zero_iff.1 (hb rfl)
    subst e0
    refine Za ?_
    refine ZaG ?_
    refine Zc ?_
    refine Zb ?_
    repeat(first|refine Zd ?_)
    refine Za ?_
    refine X1 2 103 2 hG rfl ?_
    intro id G hG
    repeat(first|refine Zes ?_)
    exact ZaH
  | false =>
    repeat(first|refine Zes ?_|(refine ZaI ?_;intro id2 G hG)|(refine ZO ?_;intro id G hG))
    have e:0+l.length=l.length:=by omega
    rw [e] at *
    exact ZaJ
theorem Xs6 (x:Comment):(Xar x).length=6:=by cases x;rfl
theorem XyD (x:Comment):(Xar x).all XZ=true:=by cases x;rfl
set_option maxHeartbeats 4000000 in
theorem Xsn (l:List Comment) (hl:l.length≤1000000):AC Tryz.prog 162 [XaE Xar 6 l] [] (XeN (l.flatMap Xar) 138 l.length 6):=by
  have hG:=Xd
  have ho:=Xcz XyD l
  have hn:=XF Xs6 l
  refine Xv Tryz.func162 rfl rfl rfl ?_
  repeat(first|refine Zes ?_)
  refine ZaF ?_
  intro b hb
  cases b with
  | true =>
    have e0:l=[]:=List.length_eq_zero_iff.1 (hb rfl)
    subst e0
    refine Za ?_
    refine ZaG ?_
    refine Zc ?_
    refine Zb ?_
    repeat(first|refine Zd ?_)
    refine Za ?_
    refine X1 2 138 6 hG rfl ?_
    intro id G hG
    repeat(first|refine Zes ?_)
    exact ZaH
  | false =>
    repeat(first|refine Zes ?_|(refine ZaI ?_;intro id2 G hG)|(refine ZO ?_;intro id G hG))
    have e:0+l.length=l.length:=by omega
    rw [e] at *
    exact ZaJ
theorem Xs5 (x:Var):(Xc1 x).length=2:=by cases x;rfl
theorem XyC (x:Var):(Xc1 x).all XZ=true:=by cases x;rfl
set_option maxHeartbeats 4000000 in
theorem Xsm (l:List Var) (hl:l.length≤1000000):AC Tryz.prog 163 [XaE Xc1 2 l] [] (XeN (l.flatMap Xc1) 141 l.length 2):=by
  have hG:=Xd
  have ho:=Xcz XyC l
  have hn:=XF Xs5 l
  refine Xv Tryz.func163 rfl rfl rfl ?_
  repeat(first|refine Zes ?_)
  refine ZaF ?_
  intro b hb
  cases b with
  | true =>
    have e0:l=[]:=List.length_eq_zero_iff.1 (hb rfl)
    subst e0
    refine Za ?_
    refine ZaG ?_
    refine Zc ?_
    refine Zb ?_
    repeat(first|refine Zd ?_)
    refine Za ?_
    refine X1 2 141 2 hG rfl ?_
    intro id G hG
    repeat(first|refine Zes ?_)
    exact ZaH
  | false =>
    repeat(first|refine Zes ?_|(refine ZaI ?_;intro id2 G hG)|(refine ZO ?_;intro id G hG))
    have e:0+l.length=l.length:=by omega
    rw [e] at *
    exact ZaJ
theorem Xs4 (x:Level):(Xax x).length=4:=by cases x;rfl
theorem XyB (x:Level):(Xax x).all XZ=true:=by cases x;rfl
set_option maxHeartbeats 4000000 in
theorem Xsl (l:List Level) (hl:l.length≤1000000):AC Tryz.prog 164 [XaE Xax 4 l] [] (XeN (l.flatMap Xax) 127 l.length 4):=by
  have hG:=Xd
  have ho:=Xcz XyB l
  have hn:=XF Xs4 l
  refine Xv Tryz.func164 rfl rfl rfl ?_
  repeat(first|refine Zes ?_)
  refine ZaF ?_
  intro b hb
  cases b with
  | true =>
    have e0:l=[]:=List.length_eq_zero_iff.1 (hb rfl)
    subst e0
    refine Za ?_
    refine ZaG ?_
    refine Zc ?_
    refine Zb ?_
    repeat(first|refine Zd ?_)
    refine Za ?_
    refine X1 2 127 4 hG rfl ?_
    intro id G hG
    repeat(first|refine Zes ?_)
    exact ZaH
  | false =>
    repeat(first|refine Zes ?_|(refine ZaI ?_;intro id2 G hG)|(refine ZO ?_;intro id G hG))
    have e:0+l.length=l.length:=by omega
    rw [e] at *
    exact ZaJ
theorem XyP (x:Rev):(Xco x).length=3:=by cases x;rfl
theorem XBq (x:Rev):(Xco x).all XZ=true:=by cases x;rfl
set_option maxHeartbeats 4000000 in
theorem XwN (l:List Rev) (hl:l.length≤1000000):AC Tryz.prog 66 [XaE Xco 3 l] [] (XeN (l.flatMap Xco) 133 l.length 3):=by
  have hG:=Xd
  have ho:=Xcz XBq l
  have hn:=XF XyP l
  refine Xv Tryz.func66 rfl rfl rfl ?_
  repeat(first|refine Zes ?_)
  refine ZaF ?_
  intro b hb
  cases b with
  | true =>
    have e0:l=[]:=List.length_eq_zero_iff.1 (hb rfl)
    subst e0
    refine Za ?_
    refine ZaG ?_
    refine Zc ?_
    refine Zb ?_
    repeat(first|refine Zd ?_)
    refine Za ?_
    refine X1 2 133 3 hG rfl ?_
    intro id G hG
    repeat(first|refine Zes ?_)
    exact ZaH
  | false =>
    repeat(first|refine Zes ?_|(refine ZaI ?_;intro id2 G hG)|(refine ZO ?_;intro id G hG))
    have e:0+l.length=l.length:=by omega
    rw [e] at *
    exact ZaJ
end Go.Proofs.YtlcphjcpoinolaaGreat
namespace Go.Th
open Go.RowKit
section
variable {K:Type} [DecidableEq K] {kd:TypeDesc} {ky:K→Value}
def Xsf (es:XbA K) (k:K):XbA K:=match Xcb k es 0 with
  | none=>es
  | some (i,_)=>es.eraseIdx i
omit [DecidableEq K] in
theorem Xn3 {m:Mp} {w:World} {es:XbA K} {l:List MapEntry} (h:EntsRep ky m w es l):∀ i,EntsRep ky m w (es.eraseIdx i) (l.eraseIdx i):=by
  induction h with
  | nil=>intro i;simp [EntsRep.nil]
  | cons h1 h2 h3 t ih =>
    intro i
    cases i with
    | zero=>simpa using t
    | succ i=>simpa using EntsRep.cons h1 h2 h3 (ih i)
variable {P:Program} {n:Nat} {Q:QA} {E:Env} {H:Xi} {ops:Array Oper} {rest:List Oper} {o:Oper} {t kt et kt':TypeId}
theorem Xxc {H':Xi} (hg:o.guard=none) (hd:o.dst=none)
    (h:∀ m w (ρ:Operand→Value),R m H w→(∀ x q,E.ev x=some q→Rep m w q (ρ x))→∃ v m' w',(execOp ρ o).run P w=.ok (.value v) w'∧Le m w m' w'∧R m' H' w')
    (k:wpL P n ops rest Q E H'):wpL P n ops (o::rest) Q E H:=by
  rintro rd m0 w0 a w ⟨h1,h2,m,h3,h4,h5⟩
  refine wpListIn_plain hg fun K hK=>?_
  obtain ⟨v,m',w',hrun,hle,hR⟩:=h m w a.eval h4 (fun x q hx=>h5.ev hx)
  refine Xdu hrun ?_
  rw [hd]
  exact hK _ _ (k rd m0 w0 a w' ⟨h1,h2,m',h3.trans hle,hR,h5.mono h4.rk hle⟩)
theorem XqT [hu:HasU P t (.map kt et)] [huk:HasU P kt kd] (hkk:KeyOk kd ky) {x y:Operand} {id:Nat} {key:K} {es:XbA K} {clock:Nat} {L:List (Nat × Blk)} (k:Nat) (hG:Has H L) (hg:o.guard=none) (hd:o.dst=none)
    (ho:o.op=.call { callee:=.builtin .delete,args:=#[x,y],argTypes:=#[t,kt'] }) (hx:E.ev x=some (.mp id)) (hy:E.ev y=some (.v (ky key))) (hk:L[k]?=some (id,XU ky es clock))
    (h:∀ G,Has G (L.set k (id,XU ky (Xsf es key) clock))→wpL P n ops rest Q E G):wpL P n ops (o::rest) Q E H:=by
  have hB:=hG.get k id _ hk
  refine Xxc hg hd (H':=H.set id (some (XU ky (Xsf es key) clock))) (fun m w ρ hR hρ=>?_) (h _ (hG.set hk _))
  obtain ⟨b,lim,l,e1,hm,hlim,hh,hents⟩:=Xd2 hR hB (hρ x _ hx)
  have e2:=XJ (hρ y _ hy)
  have hlt:b < w.heap.size:=(Array.getElem?_eq_some_iff.1 hh).1
  have turn:∀ (l':Array MapEntry),EntsRep ky m w (Xsf es key) l'.toList →
      R m (H.set id (some (XU ky (Xsf es key) clock))) (Xmw w b (.map l' clock))∧Le m w m (Xmw w b (.map l' clock)):=fun l' hl'=>by
    refine hR.rewrite (w':=Xmw w b (.map l' clock)) hB rfl hm (cur':=#[.func (.func 0) #[] (Xd3 l' clock)]) (cs:=[.fn (.func 0) (Xf1 ky (Xsf es key) clock)])
      Xj0 rfl rfl rfl (fun j hj=>Xh6 hj) ⟨_,_,Xj1 hlt,rfl⟩ (by simp [hlim]) (by simp [hlim]) (fun j c hj=>?_)
    cases j with
    | zero =>
      simp at hj;subst hj
      exact ⟨_,rfl,XfZ.2 (show CR m w (Xf1 ky (Xsf es key) clock) (Xd3 l' clock).toList from Xcu (.v _ rfl) (XmT hkk hl')),rfl⟩
    | succ j=>simp at hj
  have hck:(Instr.checkKey l.isEmpty 10000 kt (ky key)).run P w=.ok () w:=hkk.chk P kt _ w key huk.u
  rcases Xa5 hkk huk.u key hents with ⟨g1,g2⟩ | ⟨j,q,v,g1,g2,g3⟩
  · obtain ⟨r1,r2⟩:=turn l (by unfold Xsf;rw [g1];exact hents)
    have hso:=Xdp (P:=P) (.map l clock) hh
    refine ⟨.tuple #[],m,_,?_,r2,r1⟩
    simp [execOp,ho,resolve,invoke,builtin,Builtin.delete_,e1,e2,run_underlying hu.u,XaP hh,hck,g2,hso]
  · have hsub:(l.eraseIdxIfInBounds j).toList=l.toList.eraseIdx j:=by
      unfold Array.eraseIdxIfInBounds
      split
      · simp
      · rename_i hj
        rw [List.eraseIdx_of_length_le (by simpa using hj)]
    obtain ⟨r1,r2⟩:=turn (l.eraseIdxIfInBounds j) (by unfold Xsf;rw [g1,hsub];exact Xn3 hents j)
    have hso:=Xdp (P:=P) (.map (l.eraseIdxIfInBounds j) clock) hh
    refine ⟨.tuple #[],m,_,?_,r2,r1⟩
    simp [execOp,ho,resolve,invoke,builtin,Builtin.delete_,e1,e2,run_underlying hu.u,XaP hh,hck,g2,hso]
def XiV (id clock:Nat):Blk:=⟨[.fn (.func 2) [.mp id,.v (.int .i64 (clock:Nat)),.v (.int .i64 (clock:Nat))]],0,true⟩
omit [DecidableEq K] in
theorem Xqx [hu:HasU P t (.map kt et)] {x:Operand} {id:Nat} {es:XbA K} {clock:Nat} (ho:o.op=.range t x) (hx:E.ev x=some (.mp id)) (hB:H[id]?=some (some (XU ky es clock))) :
    OpW P o E H (.it H.length) (H++[some (XiV id clock)]):=fun m w ρ hR hρ=>by
  have hr:=hρ x _ hx
  obtain ⟨b,lim,l,e1,hm,hlim,hh,hents⟩:=Xd2 hR hB hr
  obtain ⟨a,c⟩:=hR.newObj (XiV id clock) (.mapIter (some b) clock #[] clock) 3 #[.func (.func 2) #[] #[.map (some b),.int .i64 (clock:Nat),.int .i64 (clock:Nat)]] ⟨b,clock,#[],clock,rfl,rfl⟩ (by simp [XiV]) rfl (fun j c hj=>by
    cases j with
    | zero =>
      simp [XiV] at hj;subst hj
      exact ⟨_,rfl,XfZ.2 (Xcu (e1 ▸ hr) (Xcu (.v _ rfl) (Xcu (.v _ rfl) Xm7))),rfl⟩
    | succ j=>simp [XiV] at hj)
  refine ⟨.pointer (some ⟨w.heap.size,0,none⟩),_,_,?_,c,a,.it (b:=w.heap.size) (k:=1) (lim:=1) (by simp)⟩
  simp [execOp,ho,Instr.range,run_underlying hu.u,e1,XaP hh]
omit [DecidableEq K] in
theorem Xm9 [hu:HasU P t (.map kt et)] {d:Nat} {x:Operand} {id:Nat} {es:XbA K} {clock:Nat} {L:List (Nat × Blk)} (k:Nat) (hG:Has H L) (hg:o.guard=none) (hd:o.dst=some d) (hn:d < n) (ho:o.op=.range t x) (hx:E.ev x=some (.mp id)) (hk:L[k]?=some (id,XU ky es clock))
    (h:∀ it G,Has G ((it,XiV id clock)::L)→wpL P n ops rest Q ((d,.it it)::E) G):wpL P n ops (o::rest) Q E H :=
  Xfs hg hd hn (Xqx ho hx (hG.get k id _ hk)) (h _ _ (hG.new _))
theorem XuS {m:Mp} {H:Xi} {w:World} (hR:R m H w) {it id clock:Nat} (hB:H[it]?=some (some (XiV id clock))) {v:Value} (hr:Rep m w (.it it) v) :
    ∃ b bm lim,v=.pointer (some ⟨b,0,none⟩)∧m.blk id=some (bm,1,lim)∧w.heap[b]?=some (.mapIter (some bm) clock #[] clock):=by
  cases hr with
  | @it _ b k lim hm =>
    obtain ⟨_,⟨cur,hv,h2,h3,h4⟩,_⟩:=hR.blk it _ b (k+2) lim hB hm
    obtain ⟨u,hu,hru,_⟩:=h4 0 (.fn (.func 2) [.mp id,.v (.int .i64 (clock:Nat)),.v (.int .i64 (clock:Nat))]) rfl
    have hk:k=1:=by
      match k,hv with
      | 0,hv =>
        obtain ⟨_,_,_,rfl⟩:=hv
        simp at hu;subst hu
        cases hru
      | 1,_=>rfl
      | k+2,hv =>
        obtain ⟨_,_,_,_,_,_,_,_,_,_,_,he,_⟩:=hv
        cases he
    subst hk
    obtain ⟨bm,since,seen,last,h1,rfl⟩:=hv
    simp at hu
    subst hu
    have hc:=XfZ.1 hru
    obtain ⟨v1,vs1,e1,r1,hc⟩:=Xby hc
    obtain ⟨v2,vs2,e2,r2,hc⟩:=Xby hc
    obtain ⟨v3,vs3,e3,r3,hc⟩:=Xby hc
    have hvs:vs3=[]:=by simpa using hc.1
    subst hvs;subst e3;subst e2
    simp only [List.cons.injEq] at e1
    obtain ⟨rfl,rfl,rfl,e4⟩:=e1
    have a1:=XJ r2
    have a2:=XJ r3
    injection a1 with _ a1
    injection a2 with _ a2
    have a1:since=clock:=by omega
    have a2:last=clock:=by omega
    subst a1;subst a2
    have hs:seen=#[]:=by
      have:seen.toList=[]:=by simpa using e4
      simpa using this
    subst hs
    cases r1 with
    | mp h=>exact ⟨b,bm,_,rfl,h,h1⟩
theorem XqD {x:Operand} {it id clock:Nat} {c2:Nat} (ho:o.op=.next x false) (hx:E.ev x=some (.it it)) (hB:H[it]?=some (some (XiV id clock))) (hM:H[id]?=some (some (XU ky ([]:XbA K) c2))):OpV P o E H (.tup [.v (.bool false)]):=fun m w ρ hR hρ=>by
  have _i:DecidableEq K:=inferInstance
  obtain ⟨b,bm,lim,e1,hm,hh⟩:=XuS hR hB (hρ x _ hx)
  obtain ⟨b2,lim2,l,e2,hm2,_,hh2,hents⟩:=Xd2 (ky:=ky) hR hM (.mp hm)
  injection e2 with e2
  injection e2 with e2
  subst e2
  have hl:l=#[]:=by
    cases hl:l.toList with
    | nil=>simpa using hl
    | cons a r=>rw [hl] at hents;cases hents
  subst hl
  refine ⟨.tuple #[.bool false],?_,.tup _ rfl (fun j c hj=>?_)⟩
  · have hg:(getObj b).run P w=.ok (.mapIter (some bm) clock #[] clock) w:=by simp [getObj,Sem.run,hh]
    have hch:(choose (Question.mapNext 1)).run P w=.ok 0 w:=by simp [choose,Sem.run,Question.forced]
    simp [execOp,ho,Instr.next,e1,hg,XaP hh2]
    intro h
    simp [Question.forced] at h
  · cases j with
    | zero=>simp at hj;subst hj;exact .v _ rfl
    | succ j=>simp at hj
end
end Go.Th
namespace Go.Th
open Go.RowKit
section
variable {P:Program} {E:Env} {H:Xi} {o:Oper} {s d t u ty ty2:TypeId} {size bytes:Nat} {z:List Value}
theorem XgD {p:Program} {fits:TypeId→Bool} {n:Nat} {e:TypeId} {count off:Nat} (hs:off < p.cellsOf e) (hc:1≤count):rowAt p fits (n+1) e count off 1=rowAt p fits (n+1) e 1 off 1:=by
  have h0:off / p.cellsOf e=0:=Nat.div_eq_of_lt hs
  simp only [rowAt,h0]
  have h1:decide (0+1≤count)=true:=decide_eq_true (by omega)
  have h2:decide (0 < count)=true:=decide_eq_true (by omega)
  simp [h1,h2]
theorem Xfb {m:Mp} {w:World} (hR:R m H w) {id off:Nat} {B:Blk} (hB:H[id]?=some (some B)) {v:Value} (hr:Rep m w (.ptr id off) v) :
    ∃ b lim cur,v=.pointer (some ⟨b,0+off,none⟩)∧m.blk id=some (b,0,lim)∧w.heap[b]?=some (.cells cur B.elem.tid (0,0))∧cur.size=lim∧B.cells.length≤lim:=by
  cases hr with
  | @ptr _ _ b lim hm =>
    obtain ⟨_,⟨cur,h1,h2,h3,_⟩,_⟩:=hR.blk id B b 0 lim hB hm
    exact ⟨b,lim,cur,rfl,hm,h1,h2,by omega⟩
theorem XcV {w:World} {b:Nat} {cur:Array Value} {e:TypeId} (h:w.heap[b]?=some (.cells cur e (0,0))):w.shape? b=some (e,cur.size):=by
  simp [World.shape?,h]
theorem XkP [hs:HasU P s (.pointer t)] [hd:HasU P d .unsafePointer] [hi:HasI P t size bytes z] {x:Operand} {id off:Nat} {B:Blk} (ho:o.op=.convert s d x) (hx:E.ev x=some (.ptr id off)) (hB:H[id]?=some (some B))
    (hsz:Nat.ble 1 size=true) (hof:Nat.ble (off+1) B.cells.length=true):OpV P o E H (.ptr id off):=fun m w ρ hR hρ=>by
  have hr:=hρ x _ hx
  obtain ⟨b,lim,cur,e1,hm,hh,hl,hle⟩:=Xfb hR hB hr
  obtain ⟨i,zv,hi1,hi2,_⟩:=hi.i
  have h1:1≤size:=Nat.le_of_ble_eq_true hsz
  have h2:off+1≤B.cells.length:=Nat.le_of_ble_eq_true hof
  refine ⟨.pointer (some ⟨b,0+off,none⟩),?_,e1 ▸ hr⟩
  have hrun:=Lib.run_to_unsafe (P:=P) w (⟨b,0+off,none⟩:Addr) hs.u hd.u hi1 (by omega) (XcV hh) (show 0+off < cur.size by omega)
  simp only [Nat.zero_add] at hrun
  simp [execOp,ho,e1,hrun]
theorem XhN [hs:HasU P s .unsafePointer] [hd:HasU P d (.pointer u)] [hi:HasI P u size bytes z] {x:Operand} {id off:Nat} {B:Blk} (ho:o.op=.convert s d x) (hx:E.ev x=some (.ptr id off)) (hB:H[id]?=some (some B))
    (hc:Nat.ble (P.cellsOf B.elem.tid) B.cells.length=true) (hc1:Nat.ble (off+1) (P.cellsOf B.elem.tid)=true) (hl:rowAt P (sameLayout P P.depth · u) P.depth B.elem.tid 1 off 1=true):OpV P o E H (.ptr id off):=fun m w ρ hR hρ=>by
  have hr:=hρ x _ hx
  obtain ⟨b,lim,cur,e1,hm,hh,hlim,hle⟩:=Xfb hR hB hr
  obtain ⟨i,zv,hi1,hi2,_⟩:=hi.i
  have h1:P.cellsOf B.elem.tid≤B.cells.length:=Nat.le_of_ble_eq_true hc
  have h2:off+1≤P.cellsOf B.elem.tid:=Nat.le_of_ble_eq_true hc1
  have hcnt:1≤cur.size / P.cellsOf B.elem.tid:=by
    rw [Nat.le_div_iff_mul_le (by omega)];omega
  have hlies:liesAt P P.depth B.elem.tid (cur.size / P.cellsOf B.elem.tid) (0+off) u 1=true:=by
    have hd:P.depth=(2 * (P.types.size+Made.depth)+1)+1:=rfl
    rw [hd] at hl ⊢
    simp only [liesAt,Bool.or_eq_true]
    left
    rw [hd,Nat.zero_add,XgD (by omega) hcnt]
    exact hl
  refine ⟨.pointer (some ⟨b,0+off,none⟩),?_,e1 ▸ hr⟩
  have hrun:=Lib.run_from_unsafe (P:=P) w (⟨b,0+off,none⟩:Addr) hs.u hd.u hi1 (XcV hh) hlies
  simp only [Nat.zero_add] at hrun
  simp [execOp,ho,e1,hrun]
theorem XqB [ht:HasU P t (.pointer u)] [hi:HasI P u size bytes z] {x y:Operand} {id off:Nat} {B:Blk} (ho:o.op=.binOp .neq t x y ty) (hx:E.ev x=some (.ptr id off)) (hy:E.ev y=some (.ptr id off)) (hB:H[id]?=some (some B)):OpV P o E H (.v (.bool false)):=fun m w ρ hR hρ=>by
  obtain ⟨b,lim,cur,e1,hm,_⟩:=Xfb hR hB (hρ x _ hx)
  obtain ⟨b2,lim2,cur2,e2,hm2,_⟩:=Xfb hR hB (hρ y _ hy)
  rw [hm] at hm2
  injection hm2 with hm2
  injection hm2 with hb
  subst hb
  obtain ⟨i,zv,hi1,hi2,_⟩:=hi.i
  refine ⟨.bool false,?_,.v _ rfl⟩
  have hrun:=Lib.run_neq_ptr_same (P:=P) w (⟨b,0+off,none⟩:Addr) ht.u hi1
  simp only [Nat.zero_add] at hrun
  simp [execOp,ho,e1,e2,eqGuard,hrun]
theorem XwW {c:Call} {g:FuncId} {x:Operand} {p:PV} (hg:∀ v w,(callFunc g #[v]).run P w=.ok (.value v) w) (ho:o.op=.call c) (hc:c.callee=.value (.func g)) (ha:c.args=#[x]) (hx:E.ev x=some p):OpV P o E H p:=fun m w ρ hR hρ=>by
  have hr:=hρ x _ hx
  have hf:=hρ (.func g) (.fn (.func g) []) rfl
  generalize hv:ρ (.func g)=v at hf
  cases hf with
  | fn vs hl hh =>
    have hvs:vs=#[]:=by simpa using hl
    subst hvs
    refine ⟨ρ x,?_,hr⟩
    simp [execOp,ho,resolve,hc,hv,Deferred.ofValue,invoke,ha,hg]
theorem Xjy {x:Operand} {id off n sz:Nat} (ho:o.op=.call { callee:=.builtin .unsafeSliceData,args:=#[x],argTypes:=#[t] }) (hx:E.ev x=some (.sl id off n sz)) (hn:1≤n):OpV P o E H (.ptr id off):=fun m w ρ hR hρ=>by
  have hr:=hρ x _ hx
  generalize hv:ρ x=v at hr
  cases hr with
  | @sl _ _ _ _ b lim cap hm h1 h2 h3 =>
    refine ⟨.pointer (some ⟨b,0+off,none⟩),?_,.ptr hm⟩
    have hrun:=Lib.run_unsafeSliceData_row (P:=P) w #[t] o.type (⟨b,0+off,none⟩:Addr) n cap (by omega)
    simp only [Nat.zero_add] at hrun
    simp [execOp,ho,resolve,invoke,builtin,hv,hrun]
  | sl0 a=>omega
def XdH (l:List UInt8):List PV:=l.map fun b=>.v (.int .u8 b.toNat)
theorem Xei (l:List UInt8):(XdH l).length=l.length:=by simp [XdH]
theorem R.freezeW {m:Mp} {w:World} (hR:R m H w) {id b lim n:Nat} {B:Blk} (hB:H[id]?=some (some B)) (hown:B.own=true) (hm:m.blk id=some (b,0,lim)) :
    R m (H.set id none) (w.freeze ⟨b,0,none⟩ n)∧Le m w m (w.freeze ⟨b,0,none⟩ n):=by
  have hk:¬ m.keep b:=(hR.blk id B b 0 lim hB hm).2.2.1 hown
  have hother:∀ k,k≠b→(w.freeze ⟨b,0,none⟩ n).heap[k]?=w.heap[k]?:=fun k hk=>by
    unfold World.freeze
    split
    · rfl
    · simp only [Array.getElem?_modify]
      rw [if_neg (fun e=>hk e.symm)]
  have hsz:(w.freeze ⟨b,0,none⟩ n).heap.size=w.heap.size:=by
    unfold World.freeze
    split <;> simp
  refine (hR.kill id).world (by rw [hsz];exact Nat.le_refl _) ?_ ?_ ?_ (fun k hkk=>hother k (fun e=>hk (e ▸ hkk))) (fun i C b' d' lim' hi hm'=>hother b' ?_)
  · unfold World.freeze;split <;> rfl
  · unfold World.freeze;split <;> rfl
  · unfold World.freeze;split <;> rfl
  · rcases XQ hi with ⟨_,e⟩ | ⟨hne,hi⟩
    · cases e
    · cases ho:C.own with
      | true=>exact hR.inj i id C B _ _ _ _ _ _ hne hi hB ho hown hm' hm
      | false =>
        intro e
        exact hk (e ▸ hR.rk _ ((hR.blk i C b' d' lim' hi hm').2.2.2 ho))
theorem Xgc {pt it e:TypeId} [hp:HasU P pt (.pointer e)] (hce:P.cellsOf e=1) {x y:Operand} {id:Nat} {l:List UInt8} (ho:o.op=.call { callee:=.builtin .unsafeString,args:=#[x,y],argTypes:=#[pt,it] })
    (hx:E.ev x=some (.ptr id 0)) (hy:E.ev y=some (.v (.int .i64 (l.length:Nat)))) (hB:H[id]?=some (some ⟨XdH l,e,true⟩)) (h0:l≠[]) (h63:l.length≤9223372036854775807) :
    OpW P o E H (.v (.string ⟨l.toArray⟩)) (H.set id none):=fun m w ρ hR hρ=>by
  obtain ⟨b,lim,cur,e1,hm,hh,hlim,hle⟩:=Xfb hR hB (hρ x _ hx)
  have e2:=XJ (hρ y _ hy)
  obtain ⟨hR',hLe⟩:=hR.freezeW (n:=l.length) hB rfl hm
  rw [Xei] at hle
  have hcell:∀ j (c:UInt8),l[j]?=some c→w.cell? ((⟨b,0,none⟩:Addr).add j)=some (.int .u8 c.toNat):=fun j c hj=>by
    obtain ⟨_,⟨cur',c1,c2,c3,c4⟩,_⟩:=hR.blk id _ b 0 lim hB hm
    obtain ⟨v,hv,hrv,_⟩:=c4 j (.v (.int .u8 c.toNat)) (by simp [XdH,hj])
    have:=XJ hrv
    subst this
    rw [Addr.add_mk,cell_of_row w b _ cur' _ (0,0) c1,Nat.zero_add]
    rw [Nat.zero_add] at hv
    exact hv
  refine ⟨.string ⟨l.toArray⟩,m,_,?_,hLe,hR',.v _ rfl⟩
  have hrun:=Lib.run_unsafeString_row (P:=P) w pt it o.type e hp.u hce b cur.size (XcV hh) l h0 (by omega) h63 hcell
  simp [execOp,ho,resolve,invoke,builtin,e1,e2,hrun]
end
end Go.Th
namespace Go.Th
open Go.RowKit
def OpX (P:Program) (o:Oper) (E:Env) (H:Xi) (p:PV) (Z:Xi→Prop):Prop :=
  ∀ rd m w (a:Act) (K:Act→World→Prop) (Q:Exit→Act→World→Prop),R m H w→(∀ x q,E.ev x=some q→Rep m w q (a.eval x)) →
    (∀ v m' w' H',Le m w m' w'→Z H'→R m' H' w'→Rep m' w' p v→K (a.put o.dst v) w')→o.wpIn (fen rd) 0 P a w K Q
theorem AC.X {P:Program} {o:Oper} {E:Env} {H:Xi} {p:PV} {Z:Xi→Prop} {c:Call} {x:Operand} {g:FuncId} {cap args:List PV} (ho:o.op=.call c) (hc:c.callee=.value x) (hx:E.ev x=some (.fn (.func g) cap))
    (ha:evs E c.args.toList=some args) (h:AC P g (args++cap) H (fun q G=>q=p∧Z G)):OpX P o E H p Z:=fun rd m w a K Q hR hρ k=>by
  obtain ⟨vs,hvs,hrun⟩:=Xgq (P:=P) (m:=m) (w:=w) (ρ:=a.eval) ho hc (hρ x _ hx) h.1
  refine Xgi hrun ?_
  have hargs:Xek m w args (c.args.map a.eval):=by
    obtain ⟨e1,e2⟩:=XcQ (m:=m) (w:=w) (ρ:=a.eval) hρ c.args.toList args ha
    refine ⟨by simp [e1],fun j q hj=>?_⟩
    have:=e2 j q hj
    simpa [Array.getD_eq_getD_getElem?,List.getD_eq_getElem?_getD] using this
  refine (h.2 m w _ hR (hargs.append hvs)).mono ?_
  rintro e w' ⟨v,q,H',m',rfl,⟨rfl,hz⟩,hr,hR',hle⟩
  exact ⟨v,rfl,k v m' w' H' hle hz hR' hr⟩
def hsP (L:List (Xi→Prop)) (k:Nat):Xi→Prop:=L.getD k (fun _=>False)
section
variable {P:Program} {n:Nat} {fx:List Nat × List Nat} {gid:Nat→Nat} {mt:Nat} {l:List Oper} {vals:List PV} {Hs:Nat→Xi→Prop} {E0:Env} {m0:Mp} {w0:World} {rd:Option Nat}
def DFX (P:Program) (n:Nat) (fx:List Nat × List Nat) (gid:Nat→Nat) (l:List Oper) (vals:List PV) (Hs:Nat→Xi→Prop) (E0:Env) (i:Nat) (o:Oper) (p:PV):Prop :=
  (∀ d,o.dst=some d→d < n) ∧
  match fx.1.contains i with
  | true=>o.guard=none∧o.dst.isSome=true∧∃ B,OpF P o (XK o (X3 (l.take i) (vals.take i) E0)) (gid i) B p∧∀ k,loF fx l i≤k→k≤hiF fx l i→∀ H,Hs k H→H[gid i]?=some (some B)
  | false=>match o.guard with
    | none=>match (Xq o || fx.2.contains i) with
      | true=>∀ H,Hs (nF fx l i) H→OpX P o (XK o (X3 (l.take i) (vals.take i) E0)) H p (Hs (nF fx l i+1))
      | false=>∀ k,loF fx l i≤k→k≤hiF fx l i→∀ H,Hs k H→OpK P o (XK o (X3 (l.take i) (vals.take i) E0)) H p H
    | some (j,want)=>∃ b oj,vals[j]?=some (.v (.bool b))∧l[j]?=some oj∧oj.dst.isSome=true ∧
        (b=want→∀ k,loF fx l i≤k→k≤hiF fx l i→∀ H,Hs k H→OpK P o (XK o (X3 (l.take i) (vals.take i) E0)) H p H)∧(b≠want→p=.v undef)
structure InvX (n:Nat) (fx:List Nat × List Nat) (gid:Nat→Nat) (mt:Nat) (l:List Oper) (vals:List PV) (Hs:Nat→Xi→Prop) (E0:Env) (m0:Mp) (w0:World) (listed:Array Bool) (a:Act) (w:World):Prop where
  size:listed.size=l.length
  closed:Xeo l.toArray listed
  tmps:a.tmps.size=n
  rel:∃ m H,m.top=mt∧LeD m0 w0 { m with top:=m0.top } w a.defers∧(Hs (XhK fx l listed) H∧R m H w)∧(∀ (j:Nat) (o:Oper) (d:Nat) (p:PV),listed.getD j false=true→l[j]?=some o→o.dst=some d→vals[j]?=some p→Rep m w p (a.tmps.getD d undef)) ∧
    (∀ t p,E0.get t=some p→(∀ (j:Nat) (o:Oper),listed.getD j false=true→l[j]?=some o→o.dst≠some t)→Rep m w p (a.tmps.getD t undef)) ∧
    (∀ j,fx.1.contains j=true→listed.getD j false=false→m.blk (gid j)=none)
theorem Xpx (ho:DrawOkF fx l) (hgid:∀ j,fx.1.contains j=true→m0.top≤gid j∧gid j < mt) (hinj:∀ i j,fx.1.contains i=true→fx.1.contains j=true→gid i=gid j→i=j) (hmt:m0.top≤mt)
    (hv:vals.length=l.length) (hf:∀ (i:Nat) (o:Oper) (p:PV),l[i]?=some o→vals[i]?=some p→DFX P n fx gid l vals Hs E0 i o p) {Q:Exit→Act→World→Prop} {K:Act→World→Prop}
    {listed:Array Bool} {a:Act} {w:World} (hI:InvX n fx gid mt l vals Hs E0 m0 w0 listed a w) {i:Nat} (hi:i ∈ Region.ready .any l.toArray listed)
    (hK:∀ a' w',InvX n fx gid mt l vals Hs E0 m0 w0 (listed.setIfInBounds i true) a' w'→K a' w'):wpOpIn (fen rd) 0 P l.toArray Q i K a w:=by
  obtain ⟨hiu,o,hio,hdeps⟩:=mem_ready.1 hi
  have hil:l[i]?=some o:=by simpa using hio
  have hlt:i < l.length:=(List.getElem?_eq_some_iff.1 hil).1
  obtain ⟨p,hp⟩:∃ p,vals[i]?=some p:=⟨_,List.getElem?_eq_getElem (by omega)⟩
  have hif:listed.getD i false=false:=XaD hiu
  obtain ⟨m,H,htop,hle,⟨hHs,hR⟩,hr1,hr2,hun⟩:=hI.rel
  have hlen:=hI.size
  have hL':∀ j,(listed.setIfInBounds i true).getD j false=true↔(listed.getD j false=true∨j=i):=fun j=>by
    by_cases e:i=j
    · subst e;simp [Array.getD_eq_getD_getElem?,hlen,hlt]
    · rw [getD_set_ne false e];simp [Ne.symm e]
  have hclosed':Xeo l.toArray (listed.setIfInBounds i true):=fun k ok hk hkl e he hb=>by
    rw [hL'] at hkl ⊢
    rcases hkl with hkl | rfl
    · exact ZbJ
    · rw [hio] at hk;cases hk
      exact .inl (hdeps e he hb)
  have hbefi:∀ j,Xa4 (bef l []) j i=true→j≠i→listed.getD j false=true:=fun j hb hne=>by
    have:=XbY hclosed' l [] (fun k=>by simp) (fun i j hi=>by simp at hi) i j hb ((hL' i).2 (.inr rfl))
    rcases (hL' j).1 this with h | h
    · exact h
    · exact absurd h hne
  have hbefo:∀ j,Xa4 (bef l []) i j=true→listed.getD j false=false:=fun j hb=>by
    cases hj:listed.getD j false with
    | false=>rfl
    | true =>
      have:=XbY hI.closed l [] (fun k=>by simp) (fun i j hi=>by simp at hi) j i hb hj
      rw [hif] at this;cases this
  have hEi:∀ t q,(XK o (X3 (l.take i) (vals.take i) E0)).get t=some q→Rep m w q (a.tmps.getD t undef):=fun t q ht=>by
    have hts:t ∈ Xa6 o:=Env.only_self _ _ t q ht
    have ht':=Env.only_get _ _ t q ht
    rcases Xbk _ _ _ t q ht' with ⟨j,oj,h1,h2,h3,h4⟩ | ⟨h1,h2⟩
    · have hji:j < i:=by simp at h1;omega
      rw [List.getElem?_take,if_pos hji] at h2 h4
      have:=(ho.slot j i oj o t (by omega) h2 hil h3 hts).1 hji
      exact ZbK
    · refine hr2 t q h1 fun j oj hj hjl hd=>?_
      rcases Nat.lt_or_ge j i with hlt2 | hge
      · exact h2 j oj (by simp;omega) (by rw [List.getElem?_take,if_pos hlt2];exact hjl) hd
      · have hne:j≠i:=fun e=>by rw [e] at hj;rw [hif] at hj;cases hj
        have:=(ho.slot j i oj o t hne hjl hil hd hts).2 (by omega)
        rw [hbefo j this] at hj;cases hj
  have hev:∀ x q,(XK o (X3 (l.take i) (vals.take i) E0)).ev x=some q→Rep m w q (a.eval x):=fun x q hx=>FR.ev (a:=a) hEi hx
  have hdf:=hf i o p hil hp
  have fin0:∀ (v:Value) (m':Mp) (w':World) (H':Xi),m'.top=mt→LeD m0 w0 { m' with top:=m0.top } w' a.defers→(∀ c x,Rep m w c x→Rep m' w' c x)→Hs (XhK fx l (listed.setIfInBounds i true)) H'→R m' H' w'→Rep m' w' p v →
      (∀ j,fx.1.contains j=true→(listed.setIfInBounds i true).getD j false=false→m'.blk (gid j)=none)→K (a.put o.dst v) w':=fun v m' w' H' htop' hle' hmono hHs' hR' hrep hun'=>by
    refine hK _ _ ⟨by simp [hlen],hclosed',by cases o.dst <;> simp [Act.put,hI.tmps],m',H',htop',hle'.put,⟨hHs',hR'⟩,fun j oj d q hj hjl hd hq=>?_,fun t q ht hno=>?_,hun'⟩
    · rcases (hL' j).1 hj with hj | rfl
      · have hne:i≠j:=fun e=>by rw [← e,hif] at hj;cases hj
        have hrj:=hmono _ _ (hr1 j oj d q hj hjl hd hq)
        cases hdo:o.dst with
        | none=>simpa [Act.put,hdo] using hrj
        | some d' =>
          have hdd:d'≠d:=fun e=>ho.dst i j o oj d hne hil hjl (by rw [hdo,e]) hd
          simpa [Act.put,hdo,Array.getD_eq_getD_getElem?,Array.getElem?_setIfInBounds_ne hdd] using hrj
      · rw [hil] at hjl;cases hjl
        rw [hp] at hq;cases hq
        have hdn:d < a.tmps.size:=by rw [hI.tmps];exact hdf.1 d hd
        simpa [Act.put,hd,Array.getD_eq_getD_getElem?,hdn] using hrep
    · have hdt:o.dst≠some t:=hno i o ((hL' i).2 (.inr rfl)) hil
      have hrt:=hmono _ _ (hr2 t q ht (fun j oj hj hjl=>hno j oj ((hL' j).2 (.inl hj)) hjl))
      cases hdo:o.dst with
      | none=>simpa [Act.put,hdo] using hrt
      | some d' =>
        have hdd:d'≠t:=fun e=>hdt (by rw [hdo,e])
        simpa [Act.put,hdo,Array.getD_eq_getD_getElem?,Array.getElem?_setIfInBounds_ne hdd] using hrt
  have hunl:∀ j,(listed.setIfInBounds i true).getD j false=false→listed.getD j false=false∧j≠i:=fun j hj=>by
    refine ⟨?_,fun e=>?_⟩
    · cases h:listed.getD j false with
      | false=>rfl
      | true=>rw [(hL' j).2 (.inl h)] at hj;cases hj
    · rw [(hL' j).2 (.inr e)] at hj;cases hj
  have fin:∀ (v:Value) (m':Mp) (w':World) (H':Xi),Le m w m' w'→Hs (XhK fx l (listed.setIfInBounds i true)) H'→R m' H' w'→Rep m' w' p v→K (a.put o.dst v) w':=fun v m' w' H' hle' hHs' hR' hrep=>by
    have h3:=hle'.retop (t:=m0.top) (by rw [htop];exact hmt)
    refine fin0 v m' w' H' (hle'.top.trans htop) (hle.trans h3) (fun c x hr=>hr.mono hR.rk hle') hHs' hR' hrep fun j hj hjl=>?_
    rw [hle'.old _ (by rw [htop];exact (hgid j hj).2)]
    exact hun j hj (hunl j hjl).1
  have hla:XdA fx l i=((Xq o || fx.2.contains i) && !fx.1.contains i):=by simp [XdA,XaT,hil]
  have hcnt:=XmY (fx:=fx) (l:=l) hlt hlen hif
  rw [hla] at hcnt
  have hlo:loF fx l i≤XhK fx l listed:=by
    refine Xdh _ _ _ fun j hj hb=>?_
    simp only [Bool.and_eq_true] at hb ⊢
    exact ZbL
  have hhi:XhK fx l listed≤hiF fx l i:=by
    refine Xdh _ _ _ fun j hj hb=>?_
    simp only [Bool.and_eq_true,Bool.not_eq_true'] at hb ⊢
    refine ⟨hb.1,?_⟩
    cases hbb:Xa4 (bef l []) i j with
    | false=>rfl
    | true=>rw [hbefo j hbb] at hb;cases hb.2
  have h2:=hdf.2
  unfold wpOpIn
  simp only [hio]
  cases hfi:fx.1.contains i with
  | true =>
    rw [hfi] at h2 hcnt
    simp only at h2
    obtain ⟨hg,hds,B,⟨hown,h1,hF⟩,hB⟩:=h2
    have hw:Region.wanted o (yielded l.toArray a.tmps)=true:=by simp [Region.wanted,hg]
    rw [if_pos hw]
    obtain ⟨vs,v,hrun,hc,hrep⟩:=hF m w a.eval hev
    have hn:=hun i hfi hif
    have hbind:=R.bind hR (hB _ hlo hhi H hHs) hown hn hc h1
    have hmono:∀ id x,m.blk id=some x→(if id=gid i then some (w.heap.size,0,vs.size) else m.blk id)=some x:=fun id x hx=>by
      by_cases e:id=gid i
      · subst e;rw [hn] at hx;cases hx
      · rw [if_neg e];exact hx
    refine Xdu hrun ?_
    refine fin0 v { m with blk:=fun k=>if k=gid i then some (w.heap.size,0,vs.size) else m.blk k } _ H htop ?_ (fun c x hr=>?_) (by rw [hcnt];simpa using hHs) ?_ (hrep _ (by simp)) fun j hj hjl=>?_
    · refine hle.trans ⟨hmono,fun _ h=>h,fun _ h=>h,fun b hb=>Below.heap_alloc w _ b (hR.kl b hb),by simp,rfl,rfl,rfl,fun _ h=>.inl h,rfl,fun id hid=>?_⟩
      have hid':id < m0.top:=hid
      have:=(hgid i hfi).1
      show (if id=gid i then some (w.heap.size,0,vs.size) else m.blk id)=m.blk id
      rw [if_neg (by omega)]
    · exact Rep.mono' (m:=m) (w:=w) (m':={ m with blk:=fun k=>if k=gid i then some (w.heap.size,0,vs.size) else m.blk k }) (w':=w.alloc (.cells vs B.elem.tid)) hmono (fun _ h=>h)
        (fun b x hb=>World.cell?_of_block (Below.heap_alloc w _ b (hR.kl b (hR.rk b hb)))) hr
    · exact hbind
    · obtain ⟨h5,h6⟩:=hunl j hjl
      show (if gid j=gid i then some (w.heap.size,0,vs.size) else m.blk (gid j))=none
      rw [if_neg (fun e=>h6 (hinj j i hj hfi e))]
      exact hun j hj h5
  | false =>
    rw [hfi] at h2 hcnt
    simp only [Bool.not_false,Bool.and_true] at h2 hcnt
    cases hg:o.guard with
    | none =>
      have hw:Region.wanted o (yielded l.toArray a.tmps)=true:=by simp [Region.wanted,hg]
      rw [if_pos hw]
      rw [hg] at h2
      simp only at h2
      cases hlo':(Xq o || fx.2.contains i) with
      | true =>
        rw [hlo'] at h2 hcnt
        simp only at h2
        have hn:XhK fx l listed=nF fx l i:=by
          apply List.countP_congr
          intro j hj
          have hjl:j < l.length:=List.mem_range.1 hj
          have hjo:l[j]?=some l[j]:=List.getElem?_eq_getElem hjl
          cases hla2:XdA fx l j with
          | false=>simp
          | true =>
            have hlj:((Xq l[j] || fx.2.contains j) && !fx.1.contains j)=true:=by simpa [XdA,XaT,hjo] using hla2
            have hli:((Xq o || fx.2.contains i) && !fx.1.contains i)=true:=by rw [hlo',hfi];rfl
            simp only [Bool.true_and,decide_eq_true_eq]
            constructor
            · intro hlj2
              rcases Nat.lt_trichotomy j i with h | h | h
              · exact h
              · rw [h,hif] at hlj2;cases hlj2
              · have:=hbefo j (ho.loud i j o l[j] h hil hjo hli hlj)
                rw [this] at hlj2;cases hlj2
            · intro h
              exact hbefi j (ho.loud j i l[j] o h hjo hil hlj hli) (by omega)
        refine h2 H (by rw [← hn];exact hHs) rd m w a _ _ hR hev fun v m' w' H' h3 hx h4 h5=>fin v m' w' H' h3 ?_ h4 h5
        rw [hcnt,hn];simpa using hx
      | false =>
        rw [hlo'] at h2 hcnt
        simp only at h2
        refine h2 _ hlo hhi H hHs rd m w a _ _ hR hev fun v m' w' h3 h4 h5=>fin v m' w' H h3 ?_ h4 h5
        rw [hcnt];simpa using hHs
    | some jw =>
      obtain ⟨j,want⟩:=jw
      rw [hg] at h2
      simp only at h2
      obtain ⟨b,oj,hvj,hjl,hjd,h3,h4⟩:=h2
      obtain ⟨g1,g2,g3⟩:=ho.guard i j o want hil hg
      have hlj:=hbefi j g1 (by omega)
      obtain ⟨dj,hdj⟩:=Option.isSome_iff_exists.1 hjd
      have hrj:=hr1 j oj dj _ hlj hjl hdj hvj
      have he:a.tmps.getD dj undef=.bool b:=XJ hrj
      have hdn:dj < a.tmps.size:=by
        rcases Nat.lt_or_ge dj a.tmps.size with h | h
        · exact h
        · rw [Array.getD_eq_getD_getElem?,Array.getElem?_eq_none h] at he;simp [undef] at he
      have hy:yielded l.toArray a.tmps j=some b:=by
        have:a.tmps[dj]?=some (.bool b):=by
          rw [Array.getD_eq_getD_getElem?,Array.getElem?_eq_getElem hdn] at he
          rw [Array.getElem?_eq_getElem hdn]
          simpa using he
        simp [yielded,hjl,hdj,this]
      rw [g3] at hcnt
      by_cases e:b=want
      · have hw:Region.wanted o (yielded l.toArray a.tmps)=true:=by simp [Region.wanted,hg,hy,e]
        rw [if_pos hw]
        refine h3 e _ hlo hhi H hHs rd m w a _ _ hR hev fun v m' w' h5 h6 h7=>fin v m' w' H h5 ?_ h6 h7
        rw [hcnt];simpa using hHs
      · have hw:Region.wanted o (yielded l.toArray a.tmps)=false:=by simp [Region.wanted,hg,hy,e]
        rw [hw,if_neg (by simp)]
        have hpu:=h4 e
        subst hpu
        refine ⟨fun f _=>Xb6 rd f,fin undef m w H (Le.refl m w) ?_ hR (.v _ rfl)⟩
        rw [hcnt];simpa using hHs
theorem XmF (ho:DrawOkF fx l) (hgid:∀ j,fx.1.contains j=true→m0.top≤gid j∧gid j < mt) (hinj:∀ i j,fx.1.contains i=true→fx.1.contains j=true→gid i=gid j→i=j) (hmt:m0.top≤mt)
    (hv:vals.length=l.length) (hf:∀ (i:Nat) (o:Oper) (p:PV),l[i]?=some o→vals[i]?=some p→DFX P n fx gid l vals Hs E0 i o p) {Q:Exit→Act→World→Prop}
    (hQ:∀ listed a w,InvX n fx gid mt l vals Hs E0 m0 w0 listed a w→(∀ i,i < l.length→listed.getD i false=true)→Q .normal a w) :
    ∀ (fuel:Nat) (listed:Array Bool) (a:Act) (w:World),InvX n fx gid mt l vals Hs E0 m0 w0 listed a w→((List.range l.length).countP fun i=>!listed.getD i false)≤fuel→wpAnyIn (fen rd) 0 P .any l.toArray Q fuel listed a w
  | 0,listed,a,w,hI,hc=>by
    have hall:∀ i,i < l.length→listed.getD i false=true:=fun i hi=>by
      have:=List.countP_eq_zero.1 (Nat.le_zero.1 hc) i (List.mem_range.2 hi)
      simpa using this
    refine ⟨?_,hQ listed a w hI hall⟩
    cases hr:Region.ready .any l.toArray listed with
    | nil=>rfl
    | cons i r =>
      have hm:i ∈ Region.ready .any l.toArray listed:=by rw [hr];simp
      obtain ⟨h1,o,h2,_⟩:=mem_ready.1 hm
      have hlt:i < l.length:=by simpa using (Array.getElem?_eq_some_iff.1 h2).1
      have:=hall i hlt
      rw [XaD h1] at this;cases this
  | fuel+1,listed,a,w,hI,hc=>by
    refine ⟨fun hr=>hQ listed a w hI (Xhr ho hI.size hr),fun i hi=>?_⟩
    refine Xpx ho hgid hinj hmt hv hf hI hi fun a' w' hI'=>XmF ho hgid hinj hmt hv hf hQ fuel _ a' w' hI' ?_
    obtain ⟨h1,o,h2,_⟩:=mem_ready.1 hi
    have hlt:i < l.length:=by simpa using (Array.getElem?_eq_some_iff.1 h2).1
    have hif:=XaD h1
    have hlen:=hI.size
    have hget:∀ j,(listed.setIfInBounds i true).getD j false=(listed.getD j false || decide (j=i)):=fun j=>by
      by_cases e:i=j
      · subst e;simp [Array.getD_eq_getD_getElem?,hlen,hlt]
      · rw [getD_set_ne false e];simp [Ne.symm e]
    have key:∀ (r:List Nat),r.Nodup→i ∈ r→(r.countP fun j=>!(listed.setIfInBounds i true).getD j false)+1=r.countP fun j=>!listed.getD j false:=by
      intro r
      induction r with
      | nil=>intro _ h;cases h
      | cons x r ih =>
        intro hnd hmem
        rw [List.nodup_cons] at hnd
        rw [List.countP_cons,List.countP_cons]
        by_cases e:x=i
        · subst e
          have hrest:(r.countP fun j=>!(listed.setIfInBounds x true).getD j false)=r.countP fun j=>!listed.getD j false:=by
            apply List.countP_congr
            intro j hj
            have:j≠x:=fun e=>hnd.1 (e ▸ hj)
            rw [hget];simp [this]
          rw [hrest,hget,hif]
          simp
        · have hm:i ∈ r:=by
            rcases List.mem_cons.1 hmem with h | h
            · exact absurd h.symm e
            · exact h
          have:=ih hnd.2 hm
          have e2:(!(listed.getD x false || decide (x=i)))=!listed.getD x false:=by simp [e]
          rw [hget,e2]
          omega
    have:=key _ List.nodup_range (List.mem_range.2 hlt)
    omega
theorem Xos {Q:QA} {id:Nat} {H0:Xi} (bs:List Blk) (hm:P.follows .mixedOrders=true) (hB:XeK fx l=true) (hgid:∀ j,fx.1.contains j=true→H0.length≤gid j∧gid j < H0.length+bs.length)
    (hinj:∀ i j,fx.1.contains i=true→fx.1.contains j=true→gid i=gid j→i=j) (h0:Hs 0 (H0++bs.map some)) (hv:vals.length=l.length)
    (hf:∀ (i:Nat) (o:Oper) (p:PV),l[i]?=some o→vals[i]?=some p→DFX P n fx gid l vals Hs E0 i o p)
    (k:∀ H,Hs (nF fx l l.length) H→Q .normal (X3 l vals E0) H):wpA P n (.region id l.toArray true) Q E0 H0:=by
  rintro rd m1 w1 a w ⟨h1,h2,m,h3,h4,h5⟩
  have ho:=Xqf hB
  have h4':=h4.drew
  refine wpIn_region_any hm ?_
  have hcnt0:XhK fx l (Array.replicate l.length false)=0:=by
    unfold XhK
    rw [List.countP_eq_zero]
    intro i _
    rw [Xbf]
    simp
  have htop:m1.top=m.top:=h3.top.symm
  have hle0:m.top≤H0.length:=h4.top
  have hlenH:(H0++bs.map some).length=H0.length+bs.length:=by simp
  have hR0:R { m with top:=H0.length+bs.length } (H0++bs.map some) w.drew:=by
    have:=XpD bs H0 h4'.1
    exact this.retop (by omega)
  refine XmF (Hs:=Hs) (E0:=E0) (m0:=m1) (w0:=w1) (mt:=H0.length+bs.length) ho (fun j hj=>⟨by have:=(hgid j hj).1;omega,(hgid j hj).2⟩) hinj (by omega) hv hf (fun listed a' w' hI hall=>?_) _ _ a w.drew
    ⟨by simp,fun i o hi hl=>?_,h1,{ m with top:=H0.length+bs.length },H0++bs.map some,rfl,?_,⟨by simpa [hcnt0] using h0,hR0⟩,fun j o d p hl=>?_,fun t p ht _=>((h5 t p ht).mono h4.rk h4'.2).retop _,fun j hj _=>?_⟩ ?_
  · obtain ⟨m',H',g0,g1,⟨gH,g2⟩,g3,g4,_⟩:=hI.rel
    have hlast:XhK fx l listed=nF fx l l.length:=by
      apply List.countP_congr
      intro j hj
      have hjl:=List.mem_range.1 hj
      simp [hall j hjl,hjl]
    refine ⟨_,H',k H' (by rw [← hlast];exact gH),hI.tmps,h2,{ m' with top:=m1.top },g1,?_,fun t p ht=>?_⟩
    · refine g2.retop ?_
      have:=g2.top
      omega
    · refine Rep.retop _ ?_
      rcases Xbk l vals E0 t p ht with ⟨j,oj,e1,e2,e3,e4⟩ | ⟨e1,e2⟩
      · exact g3 j oj t p (hall j (by omega)) e2 e3 e4
      · exact g4 t p e1 fun j oj _ hjl=>e2 j oj (by have:=(List.getElem?_eq_some_iff.1 hjl).1;omega) hjl
  · rw [Xbf] at hl;cases hl
  · have h6:=h3.trans h4'.2
    have e:({ m with top:=m1.top }:Mp)=m:=by rw [htop]
    show LeD m1 w1 { m with top:=m1.top } w.drew a.defers
    rw [e];exact h6
  · rw [Xbf] at hl;cases hl
  · have hge:=(hgid j hj).1
    cases hmb:m.blk (gid j) with
    | none=>rfl
    | some x=>have:=h4.dom _ x hmb;omega
  · simp only [List.size_toArray]
    refine ZbM ?_
    simp
end
def DAX (P:Program) (n:Nat) (fx:List Nat × List Nat) (gid:Nat→Nat) (l:List Oper) (vals:List PV) (Hs:Nat→Xi→Prop):Nat→List Oper→List PV→Env→Prop
  | i,o::os,p::ps,E =>
    ((∀ d,o.dst=some d→d < n) ∧
      match fx.1.contains i with
      | true=>o.guard=none∧o.dst.isSome=true∧∃ B,OpF P o (XK o E) (gid i) B p∧∀ k,loF fx l i≤k→k≤hiF fx l i→∀ H,Hs k H→H[gid i]?=some (some B)
      | false=>match o.guard with
        | none=>match (Xq o || fx.2.contains i) with
          | true=>∀ H,Hs (nF fx l i) H→OpX P o (XK o E) H p (Hs (nF fx l i+1))
          | false=>∀ k,loF fx l i≤k→k≤hiF fx l i→∀ H,Hs k H→OpK P o (XK o E) H p H
        | some (j,want)=>∃ b oj,vals[j]?=some (.v (.bool b))∧l[j]?=some oj∧oj.dst.isSome=true ∧
          (b=want→∀ k,loF fx l i≤k→k≤hiF fx l i→∀ H,Hs k H→OpK P o (XK o E) H p H)∧(b≠want→p=.v undef)) ∧
    DAX P n fx gid l vals Hs (i+1) os ps (match o.dst with | some d=>(d,p)::E | none=>E)
  | _,[],[],_=>True
  | _,_,_,_=>False
theorem DAX.facts {P:Program} {n:Nat} {fx:List Nat × List Nat} {gid:Nat→Nat} {l:List Oper} {vals:List PV} {Hs:Nat→Xi→Prop} {E0:Env} (hl:vals.length=l.length):∀ (i:Nat) (os:List Oper) (ps:List PV),l.drop i=os→vals.drop i=ps →
    DAX P n fx gid l vals Hs i os ps (X3 (l.take i) (vals.take i) E0)→∀ (j:Nat) (o:Oper) (p:PV),i≤j→l[j]?=some o→vals[j]?=some p→DFX P n fx gid l vals Hs E0 j o p
  | i,[],ps,h1,_,_,j,o,p,hij,hj,_=>by
    have h2:=congrArg List.length h1
    simp at h2
    have:=(List.getElem?_eq_some_iff.1 hj).1
    omega
  | i,o'::os,[],h1,h2,h,j,o,p,hij,hj,hp=>by simp [DAX] at h
  | i,o'::os,p'::ps,h1,h2,h,j,o,p,hij,hj,hp=>by
    obtain ⟨ha,hb⟩:=h
    have e1:l[i]?=some o':=by have:=congrArg (·[0]?) h1;simpa using this
    have e2:vals[i]?=some p':=by have:=congrArg (·[0]?) h2;simpa using this
    by_cases e:i=j
    · subst e
      rw [e1] at hj;cases hj
      rw [e2] at hp;cases hp
      exact ha
    · have hi:i < l.length:=(List.getElem?_eq_some_iff.1 e1).1
      have t1:l.take (i+1)=l.take i++[o']:=by
        rw [List.take_add_one,e1];rfl
      have t2:vals.take (i+1)=vals.take i++[p']:=by
        rw [List.take_add_one,e2];rfl
      refine DAX.facts hl (i+1) os ps ?_ ?_ ?_ j o p (by omega) hj hp
      · have:=congrArg List.tail h1;simpa using this
      · have:=congrArg List.tail h2;simpa using this
      · rw [t1,t2,XbL _ _ _ _ _ (by simp;omega)]
        exact hb
def DYX (P:Program) (n:Nat) (fx:List Nat × List Nat) (gid:Nat→Nat) (l:List Oper) (Hs:Nat→Xi→Prop):Nat→List Oper→List PV→Env→(Env→Prop)→Prop
  | _,[],_,E,K=>K E
  | i,o::os,acc,E,K=>∃ p,((∀ d,o.dst=some d→d < n) ∧
      match fx.1.contains i with
      | true=>o.guard=none∧o.dst.isSome=true∧∃ B,OpF P o (XK o E) (gid i) B p∧∀ k,loF fx l i≤k→k≤hiF fx l i→∀ H,Hs k H→H[gid i]?=some (some B)
      | false=>match o.guard with
        | none=>match (Xq o || fx.2.contains i) with
          | true=>∀ H,Hs (nF fx l i) H→OpX P o (XK o E) H p (Hs (nF fx l i+1))
          | false=>∀ k,loF fx l i≤k→k≤hiF fx l i→∀ H,Hs k H→OpK P o (XK o E) H p H
        | some (j,want)=>∃ b oj,j < i∧acc[i - 1 - j]?=some (.v (.bool b))∧l[j]?=some oj∧oj.dst.isSome=true ∧
            (b=want→∀ k,loF fx l i≤k→k≤hiF fx l i→∀ H,Hs k H→OpK P o (XK o E) H p H)∧(b≠want→p=.v undef)) ∧
    DYX P n fx gid l Hs (i+1) os (p::acc) (match o.dst with | some d=>(d,p)::E | none=>E) K
theorem DYX.all {P:Program} {n:Nat} {fx:List Nat × List Nat} {gid:Nat→Nat} {l:List Oper} {Hs:Nat→Xi→Prop} {K:Env→Prop}:∀ (os:List Oper) (i:Nat) (acc:List PV) (E:Env),acc.length=i→DYX P n fx gid l Hs i os acc E K →
    ∃ ps,ps.length=os.length∧DAX P n fx gid l (acc.reverse++ps) Hs i os ps E∧K (X3 os ps E)
  | [],i,acc,E,_,h=>⟨[],rfl,trivial,h⟩
  | o::os,i,acc,E,hl,⟨p,⟨h1,h2⟩,h3⟩=>by
    obtain ⟨ps,hps,hd,hk⟩:=DYX.all os (i+1) (p::acc) _ (by simp [hl]) h3
    refine ⟨p::ps,by simp [hps],⟨⟨h1,?_⟩,?_⟩,hk⟩
    · cases hf:fx.1.contains i with
      | true=>rw [hf] at h2;exact h2
      | false =>
        rw [hf] at h2
        simp only at h2 ⊢
        cases hg:o.guard with
        | none=>rw [hg] at h2;exact h2
        | some jw =>
          rw [hg] at h2
          obtain ⟨b,oj,e0,e1,e2⟩:=h2
          refine ⟨b,oj,?_,e2⟩
          rw [List.getElem?_append_left (by simp;omega),List.getElem?_reverse (by omega),hl]
          exact e1
    · rw [List.reverse_cons,List.append_assoc] at hd
      exact hd
theorem Xoq {P:Program} {n:Nat} {l:List Oper} {E0:Env} {Q:QA} {id:Nat} {G:Xi} (lx:List Nat) (L:List (Xi→Prop)) (Z:Xi→Prop) {N:Nat} (hm:P.follows .mixedOrders=true) (hB:XeK ([],lx) l=true) (hN:nF ([],lx) l l.length=N) (hZ:hsP ((·=G)::L) N=Z)
    (h:DYX P n ([],lx) (fun _=>0) l (hsP ((·=G)::L)) 0 l [] E0 (fun E=>∀ H,Z H→Q .normal E H)):wpA P n (.region id l.toArray true) Q E0 G:=by
  subst hN
  subst hZ
  obtain ⟨ps,hl,hd,hk⟩:=DYX.all l 0 [] E0 rfl h
  exact Xos (fx:=([],lx)) (gid:=fun _=>0) (Hs:=hsP ((·=G)::L)) [] hm hB (fun j hj=>by simp at hj) (fun i j hi hj _=>by simp at hi) (by simp [hsP]) hl (fun i o p hi hp=>DAX.facts hl 0 l ps rfl rfl (by simpa [X3] using hd) i o p (Nat.zero_le _) hi hp) hk
section
variable {P:Program} {n:Nat} {fx:List Nat × List Nat} {gid:Nat→Nat} {l:List Oper} {acc:List PV} {Hs:Nat→Xi→Prop} {i:Nat} {o:Oper} {os:List Oper} {p:PV} {E:Env} {d:Nat} {K:Env→Prop}
theorem XBR {K:Env→Xi→Prop} {Q:QA} {Z:Xi→Prop} (h:∀ H,Z H→K E H):DYX P n fx gid l Hs i [] acc E (fun E=>∀ H,Z H→XeC K Q .normal E H):=h
theorem P_k (hf:fx.1.contains i=false) (hg:o.guard=none) (hl:(Xq o || fx.2.contains i)=false) (hd:o.dst=some d) (hn:d < n) (h:∀ G,OpK P o (XK o E) G p G) (k:DYX P n fx gid l Hs (i+1) os (p::acc) ((d,p)::E) K):DYX P n fx gid l Hs i (o::os) acc E K:=by
  refine ⟨p,⟨fun d' hd'=>by rw [hd] at hd';cases hd';exact hn,?_⟩,by rw [hd];exact k⟩
  rw [hf,hg,hl]
  exact fun c _ _ H _=>h H
theorem P_v (hf:fx.1.contains i=false) (hg:o.guard=none) (hl:(Xq o || fx.2.contains i)=false) (hd:o.dst=some d) (hn:d < n) (h:∀ G,OpV P o (XK o E) G p) (k:DYX P n fx gid l Hs (i+1) os (p::acc) ((d,p)::E) K):DYX P n fx gid l Hs i (o::os) acc E K :=
  P_k hf hg hl hd hn (fun G=>(h G).K) k
theorem P_r0 {G:Xi} {L:List (Xi→Prop)} (hf:fx.1.contains i=false) (h2:hiF fx l i=0) (hg:o.guard=none) (hl:(Xq o || fx.2.contains i)=false) (hd:o.dst=some d) (hn:d < n) (h:OpV P o (XK o E) G p) (k:DYX P n fx gid l (hsP ((·=G)::L)) (i+1) os (p::acc) ((d,p)::E) K):DYX P n fx gid l (hsP ((·=G)::L)) i (o::os) acc E K:=by
  refine ⟨p,⟨fun d' hd'=>by rw [hd] at hd';cases hd';exact hn,?_⟩,by rw [hd];exact k⟩
  rw [hf,hg,hl]
  intro c hc1 hc2 H hH
  have e:c=0:=by omega
  subst e
  have:H=G:=hH
  subst this
  exact h.K
theorem P_kr0 {G:Xi} {L:List (Xi→Prop)} (hf:fx.1.contains i=false) (h2:hiF fx l i=0) (hg:o.guard=none) (hl:(Xq o || fx.2.contains i)=false) (hd:o.dst=some d) (hn:d < n) (h:OpK P o (XK o E) G p G) (k:DYX P n fx gid l (hsP ((·=G)::L)) (i+1) os (p::acc) ((d,p)::E) K):DYX P n fx gid l (hsP ((·=G)::L)) i (o::os) acc E K:=by
  refine ⟨p,⟨fun d' hd'=>by rw [hd] at hd';cases hd';exact hn,?_⟩,by rw [hd];exact k⟩
  rw [hf,hg,hl]
  intro c hc1 hc2 H hH
  have e:c=0:=by omega
  subst e
  have:H=G:=hH
  subst this
  exact h
theorem P_x {Z Z':Xi→Prop} (c:Nat) (hf:fx.1.contains i=false) (hc:nF fx l i=c) (h1:Hs c=Z) (hg:o.guard=none) (hl:(Xq o || fx.2.contains i)=true) (hd:o.dst=some d) (hn:d < n) (h2:Hs (c+1)=Z') (h:∀ H,Z H→OpX P o (XK o E) H p Z')
    (k:DYX P n fx gid l Hs (i+1) os (p::acc) ((d,p)::E) K):DYX P n fx gid l Hs i (o::os) acc E K:=by
  refine ⟨p,⟨fun d' hd'=>by rw [hd] at hd';cases hd';exact hn,?_⟩,by rw [hd];exact k⟩
  rw [hf,hg,hl,hc,h1,h2]
  exact h
end
end Go.Th
namespace Go.Th
open Go.RowKit
section
variable {P:Program} {H:Xi} {E:Env} {o:Oper}
theorem R.newRo {m:Mp} {w w':World} (hR:R m H w) (hs:w'.heap.size=w.heap.size+1) (hos:w'.os=w.os) (ht:w'.tape=w.tape) (ho:w'.output=w.output) (hh:∀ b,b < w.heap.size→w'.heap[b]?=w.heap[b]?) :
    Le m w { m with ro:=fun b=>m.ro b∨b=w.heap.size,keep:=fun b=>m.keep b∨b=w.heap.size } w'∧R { m with ro:=fun b=>m.ro b∨b=w.heap.size,keep:=fun b=>m.keep b∨b=w.heap.size } H w':=by
  have hle:Le m w { m with ro:=fun b=>m.ro b∨b=w.heap.size,keep:=fun b=>m.keep b∨b=w.heap.size } w' :=
    ⟨fun _ _ h=>h,fun _ h=>.inl h,fun _ h=>.inl h,fun b hb=>hh b (hR.kl b hb),by omega,hos,ht,ho,fun b hb=>hb.elim .inl (fun e=>.inr fun hk=>by have:=hR.kl b hk;omega),rfl,fun _ _=>rfl⟩
  refine ⟨hle,⟨fun b hb=>hb.elim (fun h=>.inl (hR.rk b h)) .inr,fun b hb=>hb.elim (fun h=>by have:=hR.kl b h;omega) (fun h=>by omega),hR.dom,fun id B b d lim hi hm=>?_,hR.inj,hR.top⟩⟩
  have hlt:=hR.lt hi hm
  obtain ⟨h0,⟨cur,hc,h1,h2,h3⟩,h4,h5⟩:=hR.blk id B b d lim hi hm
  refine ⟨h0,⟨cur,by rw [hh b hlt];exact hc,h1,h2,fun j c hj=>?_⟩,fun e hk=>hk.elim (h4 e) (fun e=>by omega),fun e=>.inl (h5 e)⟩
  obtain ⟨v,hv,hr,h1v⟩:=h3 j c hj
  exact ⟨v,hv,hr.mono hR.rk hle,h1v⟩
def XlZ (b:ByteArray):PV:=.tr (XdH b.data.toList) b.size 1
theorem Xhw {s t e:TypeId} [hu:HasU P s .string] [hd:HasU P t (.slice e)] [he:HasU P e (.int .u8)] {x:Operand} {b:ByteArray} (ho:o.op=.convert s t x) (hx:E.ev x=some (.v (.string b))) (hb:b.size≤1000000) :
    OpW P o E H (XlZ b) H:=fun m w ρ hR hρ=>by
  have ex:=XJ (hρ x _ hx)
  have hcap:b.size≤grownCap w b.size 0 e:=grownCap_ge w b.size 0 e
  have hcm:=grownCap_le_maxLen w b.size 0 e (by simp only [maxLen];omega)
  obtain ⟨arr,harr⟩:∃ arr:Array Value,arr=b.data.map (fun c=>Value.int .u8 c.toNat)++Array.replicate (grownCap w b.size 0 e - b.size) (.int .u8 0):=⟨_,rfl⟩
  have hrun:(execOp ρ o).run P w=.ok (.value (.slice (some ⟨w.heap.size,0,none⟩) b.size (grownCap w b.size 0 e))) ((w.drew.alloc (.cells arr e)).freeze ⟨w.heap.size,arr.size,none⟩ 1):=by
    have hsh:∀ cur:Array Value,(w.drew.alloc (.cells cur e)).shape? w.heap.size=some (e,cur.size):=fun cur=>XcV (heap_alloc_new w.drew _)
    simp [execOp,ho,ex,convert,run_underlying hu.u,run_underlying hd.u,run_underlying he.u,Conv.stringToBytes,Question.forced,newRow,markStringish,grownCap,harr,hsh]
  have hsz:arr.size=grownCap w b.size 0 e:=by
    have:b.data.size=b.size:=rfl
    rw [harr,Array.size_append,Array.size_map,Array.size_replicate];omega
  obtain ⟨w',hw'⟩:∃ w',w'=(w.drew.alloc (.cells arr e)).freeze ⟨w.heap.size,arr.size,none⟩ 1:=⟨_,rfl⟩
  rw [← hw'] at hrun
  have h0:w.drew.heap=w.heap:=rfl
  have hnew:w'.heap[w.heap.size]?=some (.cells arr e (arr.size,arr.size+1)):=by
    rw [hw']
    have h1:(w.drew.alloc (.cells arr e)).heap[w.heap.size]?=some (.cells arr e (0,0)):=heap_alloc_new w.drew _
    unfold World.freeze
    rw [if_neg (by decide)]
    simp only [Array.getElem?_modify,if_true]
    rw [h1]
    rfl
  have hold:∀ k,k < w.heap.size→w'.heap[k]?=w.heap[k]?:=fun k hk=>by
    rw [hw']
    have hne:¬ w.heap.size=k:=by omega
    have hne':¬ k=w.heap.size:=by omega
    simp [World.freeze,World.alloc,h0,Array.getElem?_modify,Array.getElem?_push,hne,hne']
  obtain ⟨hle,hR'⟩:=hR.newRo (w':=w') (by rw [hw'];simp [World.freeze,World.alloc,h0]) (by rw [hw'];rfl) (by rw [hw'];rfl) (by rw [hw'];rfl) hold
  refine ⟨_,_,w',hrun,hle,hR',?_⟩
  refine .tr (fun j=>.int .u8 (XE b j:Nat)) (.inr rfl) (by rw [Xei,Nat.mul_one];rfl) hcap hcm (fun j c hj=>?_) (fun j c hj=>?_)
  · have hjl:j < b.size:=by
      have:=(List.getElem?_eq_some_iff.1 hj).1
      rw [Xei] at this
      exact this
    rw [cell_of_row w' _ _ arr e (arr.size,arr.size+1) hnew,harr]
    have hjd:j < b.data.size:=hjl
    rw [Nat.zero_add,Array.getElem?_append_left (by rw [Array.size_map];exact hjd),Array.getElem?_map]
    have hg:b[j]?=some b.data[j]:=by
      rw [getElem?_pos b j hjl];rfl
    simp [XE,hg]
    exact ⟨_,Array.getElem?_eq_getElem hjd,rfl⟩
  · have hjl:j < b.size:=by
      have:=(List.getElem?_eq_some_iff.1 hj).1
      rw [Xei] at this
      exact this
    have hjd:j < b.data.size:=hjl
    have hg:b[j]?=some b.data[j]:=by
      rw [getElem?_pos b j hjl];rfl
    have hc:c=.v (.int .u8 (XE b j:Nat)):=by
      simp [XdH] at hj
      obtain ⟨a,h1,h2⟩:=hj
      rw [Array.getElem?_eq_getElem hjd] at h1
      cases h1
      rw [← h2]
      simp [XE,hg]
    rw [hc]
    exact .v _ rfl
end
end Go.Th
