/- Part of the proof: the walk over the program and its laws: Ex Qf Qd Qe Qg. -/
import Derived.Test.YtlcphjcpoinolaaGreatP0
import Derived.Test.YtlcphjcpoinolaaGreatP2
import Derived.Test.YtlcphjcpoinolaaGreatP12
import Derived.Test.YtlcphjcpoinolaaGreatP13
import Derived.Test.YtlcphjcpoinolaaGreatP7
set_option linter.unusedVariables false
namespace Go.Th
open Go.RowKit
mutual
def Xm0:PV→Nat
  | .v _=>0
  | .ptr id _=>id+1
  | .ept cells _=>Xsu cells
  | .sl id _ _ _=>id+1
  | .tr cells _ _=>Xsu cells
  | .fn _ cap=>Xsu cap
  | .agg cells=>Xsu cells
  | .tup cells=>Xsu cells
  | .mp id=>id+1
  | .it id=>id+1
  | .yld id=>id+1
def Xsu:List PV→Nat
  | []=>0
  | c::l=>max (Xm0 c) (Xsu l)
end
theorem XdI {c:PV}:∀ {l:List PV},c ∈ l→Xm0 c≤Xsu l
  | [],h=>by simp at h
  | d::l,h=>by
    rw [Xsu]
    rcases List.mem_cons.1 h with rfl | h
    · omega
    · have:=XdI h;omega
def bndB:Option Blk→Nat
  | some B=>Xsu B.cells
  | none=>0
def Xw7:Xi→Nat
  | []=>0
  | x::H=>max (bndB x) (Xw7 H)
theorem Xqo {B:Blk} {c:PV} (hc:c ∈ B.cells):∀ {H:Xi} {id:Nat},H[id]?=some (some B)→Xm0 c≤Xw7 H
  | [],id,h=>by simp at h
  | x::H,0,h=>by
    simp at h;subst h
    have:=XdI hc
    rw [Xw7,bndB];omega
  | x::H,id+1,h=>by
    have:=Xqo hc (H:=H) (id:=id) (by simpa using h)
    rw [Xw7];omega
theorem Xup {m m':Mp} {w:World} {n:Nat} (hb:∀ id,id < n→m'.blk id=m.blk id) (hro:∀ b,m.ro b→m'.ro b) {p:PV} {v:Value} (r:Rep m w p v):Xm0 p≤n→Rep m' w p v:=by
  induction r with
  | v x hx=>exact fun _=>.v x hx
  | ptr h=>exact fun hn=>.ptr (by rw [hb _ (by rw [Xm0] at hn;omega)];exact h)
  | mp h=>exact fun hn=>.mp (by rw [hb _ (by rw [Xm0] at hn;omega)];exact h)
  | it h=>exact fun hn=>.it (by rw [hb _ (by rw [Xm0] at hn;omega)];exact h)
  | yld h=>exact fun hn=>.yld (by rw [hb _ (by rw [Xm0] at hn;omega)];exact h)
  | ept f hr hc h ih=>exact fun hn=>.ept f (hro _ hr) hc fun j c hj=>ih j c hj (by rw [Xm0] at hn;have:=XdI (List.mem_of_getElem? hj);omega)
  | sl h h1 h2 h3=>exact fun hn=>.sl (by rw [hb _ (by rw [Xm0] at hn;omega)];exact h) h1 h2 h3
  | sl0 a=>exact fun _=>.sl0 a
  | tr f hr hl h1 h2 hc h ih=>exact fun hn=>.tr f (hro _ hr) hl h1 h2 hc fun j c hj=>ih j c hj (by rw [Xm0] at hn;have:=XdI (List.mem_of_getElem? hj);omega)
  | tr0 a h2=>exact fun _=>.tr0 a h2
  | trn=>exact fun _=>.trn
  | fn vs hl h ih=>exact fun hn=>.fn vs hl fun j c hj=>ih j c hj (by rw [Xm0] at hn;have:=XdI (List.mem_of_getElem? hj);omega)
  | agg vs hl h ih=>exact fun hn=>.agg vs hl fun j c hj=>ih j c hj (by rw [Xm0] at hn;have:=XdI (List.mem_of_getElem? hj);omega)
  | tup vs hl h ih=>exact fun hn=>.tup vs hl fun j c hj=>ih j c hj (by rw [Xm0] at hn;have:=XdI (List.mem_of_getElem? hj);omega)
theorem Xlw {H:Xi} {t id:Nat} {B:Blk} (h:(H++List.replicate t none)[id]?=some (some B)):H[id]?=some (some B):=by
  rcases Nat.lt_or_ge id H.length with hlt | hge
  · rwa [List.getElem?_append_left hlt] at h
  · rw [List.getElem?_append_right hge,List.getElem?_replicate] at h
    split at h <;> simp at h
theorem AC.exact {P:Program} {f:FuncId} {args:List PV} {H H':Xi} {Q:PV→Prop} (hlen:H'.length=H.length)
    (h:∀ t,AC P f args (H++List.replicate t none) (fun p G=>Q p∧(∃ x,p=.v x)∧∀ (id:Nat) (B:Blk),H'[id]?=some (some B)→G[id]?=some (some B))):AC P f args H (fun p G=>Q p∧G=H'):=by
  refine ⟨(h 0).1,fun m w vals hR hv=>?_⟩
  obtain ⟨N,hN1,hN2⟩:∃ N,H.length≤N∧Xw7 H'≤N:=⟨max H.length (Xw7 H'),by omega,by omega⟩
  have hl:(H++List.replicate (N - H.length) none).length=N:=by simp;omega
  have rp:∀ {p v},Rep m w p v→Rep { m with top:=N } w p v:=fun r=>Rep.mono' (m:=m) (m':={ m with top:=N }) (fun _ _ h=>h) (fun _ h=>h) (fun _ _ _=>rfl) r
  have hR1:R { m with top:=N } (H++List.replicate (N - H.length) none) w:=by
    refine ⟨hR.rk,hR.kl,fun id x hx=>?_,fun id B b d lim hi hm=>?_,fun i j B C bi di li bj dj lj hne hi hj=>hR.inj i j B C bi di li bj dj lj hne (Xlw hi) (Xlw hj),by rw [hl];exact Nat.le_refl _⟩
    · have:=hR.dom id x hx
      rw [hl];omega
    · obtain ⟨g0,⟨cur,g1,g2,g3,g4⟩,g5⟩:=hR.blk id B b d lim (Xlw hi) hm
      exact ⟨g0,⟨cur,g1,g2,g3,fun j c hj=>let ⟨u,u1,u2,u3⟩:=g4 j c hj;⟨u,u1,rp u2,u3⟩⟩,g5⟩
  have hv1:Xek { m with top:=N } w args vals:=⟨hv.1,fun j c hj=>rp (hv.2 j c hj)⟩
  refine ((h (N - H.length)).2 { m with top:=N } w vals hR1 hv1).mono ?_
  rintro e w' ⟨v,p,G,m',rfl,⟨hq,⟨x,rfl⟩,hG⟩,hr,hR',hle⟩
  have hdom:∀ id x,id < N→m'.blk id=some x→id < H.length:=fun id x hid hx=>by
    have e:=hle.old id hid
    rw [hx] at e
    exact hR.dom id x e.symm
  have hbk:∀ id x,(if id < N then m'.blk id else none)=some x→id < N∧m'.blk id=some x:=fun id x hx=>by
    split at hx
    · exact ⟨by assumption,hx⟩
    · cases hx
  refine ⟨v,.v x,H',{ m' with blk:=fun id=>if id < N then m'.blk id else none,top:=m.top },rfl,⟨hq,rfl⟩,by cases hr with | v _ hna=>exact .v _ hna,?_,?_⟩
  · refine ⟨hR'.rk,hR'.kl,fun id x hx=>?_,fun id B b d lim hi hm=>?_,fun i j B C bi di li bj dj lj hne hi hj ho1 ho2 h1 h2=>?_,by rw [hlen];exact hR.top⟩
    · obtain ⟨h1,h2⟩:=hbk id x hx
      rw [hlen];exact hdom id x h1 h2
    · obtain ⟨h1,h2⟩:=hbk id _ hm
      obtain ⟨g0,⟨cur,g1,g2,g3,g4⟩,g5⟩:=hR'.blk id B b d lim (hG id B hi) h2
      refine ⟨g0,⟨cur,g1,g2,g3,fun j c hj=>?_⟩,g5⟩
      obtain ⟨u,u1,u2,u3⟩:=g4 j c hj
      refine ⟨u,u1,Xup (m:=m') (m':={ m' with blk:=fun id=>if id < N then m'.blk id else none,top:=m.top }) (n:=N) (fun id hid=>by simp [hid]) (fun _ h=>h) u2 ?_,u3⟩
      have:=Xqo (List.mem_of_getElem? hj) hi
      omega
    · exact hR'.inj i j B C bi di li bj dj lj hne (hG i B hi) (hG j C hj) ho1 ho2 (hbk i _ h1).2 (hbk j _ h2).2
  · refine ⟨fun id x hx=>?_,hle.ro,hle.keep,hle.same,hle.size,hle.os,hle.tape,hle.output,hle.fresh,rfl,fun id hid=>?_⟩
    · have h1:=hR.dom id x hx
      have h2:id < N:=by omega
      simp only [h2,if_true]
      exact hle.blk id x hx
    · have h1:=hR.top
      have h2:id < N:=by omega
      simp only [h2,if_true]
      exact hle.old id h2
end Go.Th
namespace Go.Proofs.YtlcphjcpoinolaaGreat
open Go.RowKit Go.Th
set_option maxRecDepth 20000
def XoU (H:Xi) (ids:List Nat) (id:Nat):Option (Nat × Blk):=if id ∈ ids then none else match H[id]? with
  | some (some B)=>some (id,B)
  | _=>none
def Xnt (H:Xi) (ids:List Nat):List (Nat × Blk):=(List.range H.length).filterMap (XoU H ids)
theorem XfA {H:Xi} {ids:List Nat} {id:Nat} {x:Nat × Blk} (h:XoU H ids id=some x):x.1=id∧id ∉ ids∧H[id]?=some (some x.2):=by
  unfold XoU at h
  split at h
  · cases h
  · rename_i hn
    split at h
    · rename_i B hB
      simp only [Option.some.injEq] at h;subst h
      exact ⟨rfl,hn,hB⟩
    · cases h
theorem Xri {H:Xi} {ids:List Nat} {id:Nat} {B:Blk} (h1:id ∉ ids) (h2:H[id]?=some (some B)):XoU H ids id=some (id,B):=by
  unfold XoU
  rw [if_neg h1,h2]
theorem XoT {H:Xi} {ids:List Nat} {id:Nat} {B:Blk} (h1:id ∉ ids) (h2:H[id]?=some (some B)):(id,B) ∈ Xnt H ids :=
  List.mem_filterMap.2 ⟨id,List.mem_range.2 (List.getElem?_eq_some_iff.1 h2).1,Xri h1 h2⟩
theorem XjY {H:Xi} {ids:List Nat} {x:Nat × Blk} (h:x ∈ Xnt H ids):x.1 ∉ ids∧H[x.1]?=some (some x.2):=by
  obtain ⟨id,_,h⟩:=List.mem_filterMap.1 h
  obtain ⟨h1,h2,h3⟩:=XfA h
  exact ⟨h1 ▸ h2,h1 ▸ h3⟩
theorem Xrh (H:Xi) (ids:List Nat):(Xnt H ids).Pairwise (fun x y=>x.1≠y.1):=by
  unfold Xnt
  refine List.pairwise_filterMap.2 (List.Pairwise.imp ?_ List.pairwise_lt_range)
  intro a b hab x hx y hy
  rw [(XfA hx).1,(XfA hy).1]
  omega
theorem XsM {H:Xi} {L:List (Nat × Blk)} (h:Has H L):Has H (L++Xnt H (L.map (·.1))):=by
  obtain ⟨h1,h2⟩:=Xc6.1 h
  refine Xc6.2 ⟨fun x hx=>?_,List.pairwise_append.2 ⟨h2,Xrh H _,fun a ha b hb e=>?_⟩⟩
  · rcases List.mem_append.1 hx with hx | hx
    · exact h1 x hx
    · exact (XjY hx).2
  · exact (XjY hb).1 (e ▸ List.mem_map.2 ⟨a,ha,rfl⟩)
def XeM (s s':CkS):Prop:=s'.styles=s.styles∧s'.lists=s.lists∧s'.revs=s.revs∧s'.used=s.used∧s'.e={ s.e with eb:=s'.e.eb,tb:=s'.e.tb }
theorem XeM.refl (s:CkS):XeM s s:=⟨rfl,rfl,rfl,rfl,rfl⟩
theorem XeM.trans {s t u:CkS} (h:XeM s t) (k:XeM t u):XeM s u:=by
  obtain ⟨a1,a2,a3,a4,a5⟩:=h
  obtain ⟨b1,b2,b3,b4,b5⟩:=k
  refine ⟨b1.trans a1,b2.trans a2,b3.trans a3,b4.trans a4,?_⟩
  rw [b5,a5]
def Xtz (c:CkId) (s:CkS) (H:Xi):Xi:=(H.set c.ic (some (ckB c s.units))).set c.ib (some (XU kyI s.e.eb s.e.tb))
theorem Xjn {f:FuncId} {args:List PV} {c:CkId} {s s':CkS} {K:List (Nat × Blk)} {H:Xi} {x:Int} (hs:XeM s s') (hc:CkH c s K H)
    (h:∀ K G,CkH c s K G→AC Tryz.prog f args G (fun p G'=>p=I x∧CkH c s' K G')):AC Tryz.prog f args H (fun p G=>p=I x∧G=Xtz c s' H):=by
  obtain ⟨es,el,er,eb,eu,ts,tl,tr,tb,tu,hG,a1,a2,a3,a4,a5,ae⟩:=hc
  refine AC.exact (Q:=fun p=>p=I x) (by simp [Xtz]) fun t=>?_
  have h6:Has H [(c.ic,ckB c s.units),(c.is,XU kyI es ts),(c.il,XU kyI el tl),(c.ir,XU kyI er tr),(c.ib,XU kyI eb tb),(c.iu,XU kyI eu tu)] :=
    Xc6.2 ⟨fun x hx=>(Xc6.1 hG).1 x (List.mem_append_left K hx),((List.pairwise_append (l₁:=[(c.ic,ckB c s.units),(c.is,XU kyI es ts),(c.il,XU kyI el tl),(c.ir,XU kyI er tr),(c.ib,XU kyI eb tb),(c.iu,XU kyI eu tu)])).1 (Xc6.1 hG).2).1⟩
  have hA:=(XsM h6).app (List.replicate t none)
  refine (h _ _ ⟨es,el,er,eb,eu,ts,tl,tr,tb,tu,hA,a1,a2,a3,a4,a5,ae⟩).mono ?_
  rintro p G' ⟨rfl,es',el',er',eb',eu',ts',tl',tr',tb',tu',hG',b1,b2,b3,b4,b5,be⟩
  refine ⟨rfl,⟨_,rfl⟩,fun id B hB=>?_⟩
  have hE:=hs.2.2.2.2
  rw [be,ae] at hE
  simp only [CkE.mk.injEq] at hE
  obtain ⟨rfl,rfl,rfl,_,rfl,rfl,rfl,rfl,_,rfl⟩:=hE
  unfold Xtz at hB
  by_cases e1:id=c.ib
  · subst e1
    have hlt:c.ib < (H.set c.ic (some (ckB c s'.units))).length:=by rw [List.length_set];exact h6.lt (k:=4) rfl
    rw [List.getElem?_set_self hlt] at hB
    simp only [Option.some.injEq] at hB
    subst hB
    have:=hG'.get 4 _ _ rfl
    rw [be];exact this
  rw [List.getElem?_set_ne (fun e=>e1 e.symm)] at hB
  by_cases e2:id=c.ic
  · subst e2
    rw [List.getElem?_set_self (h6.lt (k:=0) rfl)] at hB
    simp only [Option.some.injEq] at hB
    subst hB
    exact hG'.get 0 _ _ rfl
  rw [List.getElem?_set_ne (fun e=>e2 e.symm)] at hB
  by_cases e3:id=c.is
  · subst e3
    have:=h6.get 1 _ _ rfl
    rw [hB] at this;simp only [Option.some.injEq] at this;subst this
    exact hG'.get 1 _ _ rfl
  by_cases e4:id=c.il
  · subst e4
    have:=h6.get 2 _ _ rfl
    rw [hB] at this;simp only [Option.some.injEq] at this;subst this
    exact hG'.get 2 _ _ rfl
  by_cases e5:id=c.ir
  · subst e5
    have:=h6.get 3 _ _ rfl
    rw [hB] at this;simp only [Option.some.injEq] at this;subst this
    exact hG'.get 3 _ _ rfl
  by_cases e6:id=c.iu
  · subst e6
    have:=h6.get 5 _ _ rfl
    rw [hB] at this;simp only [Option.some.injEq] at this;subst this
    exact hG'.get 5 _ _ rfl
  have hm:(id,B) ∈ Xnt H [c.ic,c.is,c.il,c.ir,c.ib,c.iu]:=XoT (by simp [e1,e2,e3,e4,e5,e6]) hB
  exact (Xc6.1 hG').1 (id,B) (by
    simp only [List.mem_cons]
    exact .inr (.inr (.inr (.inr (.inr (.inr hm))))))
theorem Xmk {c:CkId} {s:CkS} {K:List (Nat × Blk)} {H:Xi} (hc:CkH c s K H):Xtz c s H=H:=by
  obtain ⟨es,el,er,eb,eu,ts,tl,tr,tb,tu,hG,a1,a2,a3,a4,a5,ae⟩:=hc
  have set_eq:∀ {H:Xi} {id:Nat} {B:Blk},H[id]?=some (some B)→H.set id (some B)=H:=fun {H id B} h=>by
    refine List.ext_getElem? fun j=>?_
    by_cases e:id=j
    · subst e;rw [List.getElem?_set_self (List.getElem?_eq_some_iff.1 h).1,h]
    · rw [List.getElem?_set_ne e]
  unfold Xtz
  rw [set_eq (hG.get 0 _ _ rfl)]
  refine set_eq ?_
  rw [ae]
  exact hG.get 4 _ _ rfl
theorem Xxk {c:CkId} {s s':CkS} {K:List (Nat × Blk)} {H:Xi} (hs:XeM s s') (h4:∀ k,(Xdk s'.e.eb k).getD (B false)=B (s'.before k)) (hc:CkH c s K H):CkH c s' K (Xtz c s' H):=by
  obtain ⟨es,el,er,eb,eu,ts,tl,tr,tb,tu,hG,a1,a2,a3,a4,a5,ae⟩:=hc
  obtain ⟨c1,c2,c3,c4,c5⟩:=hs
  refine ⟨es,el,er,s'.e.eb,eu,ts,tl,tr,s'.e.tb,tu,(hG.set (k:=0) rfl (ckB c s'.units)).set (k:=4) rfl (XU kyI s'.e.eb s'.e.tb),by rw [c1];exact a1,by rw [c2];exact a2,by rw [c3];exact a3,h4,by rw [c4];exact a5,?_⟩
  rw [c5,ae]
end Go.Proofs.YtlcphjcpoinolaaGreat
namespace Go.Proofs.YtlcphjcpoinolaaGreat
open Go.RowKit Go.Th
set_option maxRecDepth 20000
def XBu (s:ByteArray) (i:Nat):Bool :=
  let o:=orK .u8 (XE s i:Nat) 32
  let b:=XE s i
  if 97≤o∧o≤122 then true else if i=0 then false else if 48≤b∧b≤57 then true else if b=45 then true else decide (b=95)
def XnQ (s:ByteArray):Nat→Nat→Bool
  | 0,_=>true
  | n+1,i=>if XBu s i=true then XnQ s n (i+1) else false
def XrU (s:ByteArray):Bool:=if s.size < 1 then false else if 40 < s.size then false else XnQ s s.size 0
set_option maxHeartbeats 32000000 in
theorem XsL (s:ByteArray):Iso Tryz.prog 177 [S s] (fun p=>p=B (XrU s)):=by
  have hG:=Xd
  refine Xb Tryz.func177 rfl rfl rfl ?_
  unfold XrU
  by_cases c1:s.size < 1
  · rw [if_pos c1]
    repeat(first|refine Zes ?_|refine Z0 ?_)
    exact ZB
  rw [if_neg c1]
  by_cases c2:40 < s.size
  · rw [if_pos c2]
    repeat(first|refine Zes ?_|refine Z0 ?_)
    exact ZB
  rw [if_neg c2]
  repeat(first|refine Zes ?_|refine Z0 ?_)
  refine Xg (S:=Nat) (fun i=>[(0,S s),(16,I s.size),(17,I i)]) (fun i G=>i≤s.size∧XnQ s s.size 0=XnQ s (s.size - i) i∧Has G []) (fun i=>s.size - i) 0
    (.cons rfl (.cons rfl (.cons rfl (.nil _)))) ⟨Nat.zero_le _,rfl,hG⟩ ?_
  clear hG
  rintro i G ⟨hi,hf,hG⟩
  by_cases hil:i < s.size
  · rw [show s.size - i=(s.size - (i+1))+1 from by omega,XnQ] at hf
    obtain ⟨q,hq⟩:∃ q,XBu s i=q:=⟨_,rfl⟩
    rw [hq] at hf
    unfold XBu at hq
    obtain ⟨a,ha⟩:∃ a,XE s i=a:=⟨_,rfl⟩
    obtain ⟨o,ho⟩:∃ o,orK .u8 (a:Nat) 32=o:=⟨_,rfl⟩
    have hO:∀ {E:Env} {G:Xi} {op:Oper} {t ty:TypeId} {x y:Operand},op.op=.binOp .or t x y ty→E.ev x=some (.v (.int .u8 (a:Nat)))→E.ev y=some (.v (.int .u8 32))→OpV Tryz.prog op E G (.v (.int .u8 o)):=fun h1 h2 h3=>by
      rw [← ho];exact XqG h1 h2 h3
    dsimp only at hq
    rw [ha,ho] at hq
    obtain ⟨lb,hlb⟩:∃ lb,decide (97≤o∧o≤122)=lb:=⟨_,rfl⟩
    obtain ⟨ob,hob⟩:∃ ob,(if 48≤a∧a≤57 then true else if a=45 then true else decide (a=95))=ob:=⟨_,rfl⟩
    have hq:(if lb=true then true else if i=0 then false else ob)=q:=by
      rw [← hq,← hlb,← hob];simp only [decide_eq_true_eq]
    refine Zc ?_
    refine Zb ?_
    repeat(first|refine Z7 ?_)
    refine Za ?_
    repeat(first|refine Zc ?_|refine XjH rfl (by first | rfl | exact decide_eq_true (by omega)) ?_|refine Zn ?_|refine ZY ?_|refine Zj ?_)
    refine Zb ?_
    repeat(first|refine Zet ?_)
    refine Za ?_
    refine Zc ?_
    refine Zb ?_
    repeat(first|refine Zan ?_|refine Xn rfl rfl (by decide) (hO rfl rfl rfl) ?_|refine Zet ?_)
    refine Za ?_
    refine XbQ (S:=Unit) (fun _=>[(0,S s),(16,I s.size),(17,I i),(3,I i),(5,B lb)]) (fun _ G=>Has G []) ?_ ?_
    · by_cases d1:97≤o
      · by_cases d2:o≤122
        · rw [decide_eq_true ⟨d1,d2⟩] at hlb;subst hlb
          repeat(first|refine Zes ?_)
          exact ZcQ
        · rw [decide_eq_false (fun h=>d2 h.2)] at hlb;subst hlb
          repeat(first|refine Zes ?_)
          exact ZcQ
      · rw [decide_eq_false (fun h=>d1 h.1)] at hlb;subst hlb
        repeat(first|refine Zes ?_)
        exact ZcQ
    clear hO ho hlb hG
    rintro ⟨⟩ G hG
    refine XbQ (S:=Unit) (fun _=>[(0,S s),(16,I s.size),(17,I i),(3,I i),(5,B lb),(6,B ob)]) (fun _ G=>Has G []) ?_ ?_
    · by_cases b1:48≤a
      · by_cases b2:a≤57
        · rw [if_pos ⟨b1,b2⟩] at hob;subst hob
          repeat(first|refine Zes ?_|refine Zan ?_)
          exact ZaE
        rw [if_neg (fun h=>b2 h.2)] at hob
        by_cases b3:a=45
        · rw [if_pos b3] at hob;subst hob
          repeat(first|refine Zes ?_|refine Zan ?_)
          exact ZaE
        rw [if_neg b3] at hob
        by_cases b4:a=95
        · rw [decide_eq_true b4] at hob;subst hob
          repeat(first|refine Zes ?_|refine Zan ?_)
          exact ZaE
        rw [decide_eq_false b4] at hob;subst hob
        repeat(first|refine Zes ?_|refine Zan ?_)
        exact ZaE
      rw [if_neg (fun h=>b1 h.1)] at hob
      by_cases b3:a=45
      · rw [if_pos b3] at hob;subst hob
        repeat(first|refine Zes ?_|refine Zan ?_)
        exact ZaE
      rw [if_neg b3] at hob
      by_cases b4:a=95
      · rw [decide_eq_true b4] at hob;subst hob
        repeat(first|refine Zes ?_|refine Zan ?_)
        exact ZaE
      rw [decide_eq_false b4] at hob;subst hob
      repeat(first|refine Zes ?_|refine Zan ?_)
      exact ZaE
    clear hob hG ha
    rintro ⟨⟩ G hG
    cases lb with
    | true =>
      rw [if_pos rfl] at hq;subst hq;rw [if_pos rfl] at hf
      repeat(first|refine Zes ?_|refine ZX ?_)
      exact Za4
    | false =>
      rw [if_neg (by decide)] at hq
      by_cases i0:i=0
      · rw [if_pos i0] at hq;subst hq;rw [if_neg (by decide)] at hf
        repeat(first|refine Zes ?_)
        exact Zah
      rw [if_neg i0] at hq;subst hq
      cases ob with
      | true =>
        rw [if_pos rfl] at hf
        repeat(first|refine Zes ?_)
        exact Za4
      | false =>
        rw [if_neg (by decide)] at hf
        repeat(first|refine Zes ?_)
        exact Zah
  rw [show s.size - i=0 from by omega,XnQ] at hf
  repeat(first|refine Zes ?_)
  exact Zah
end Go.Proofs.YtlcphjcpoinolaaGreat
namespace Go.Proofs.YtlcphjcpoinolaaGreat
open Go.RowKit Go.Th
set_option maxRecDepth 20000
def stF (k code:Int):Bool:=if k=8 then decide (code=1) else false
def wdF (k code:Int):Bool:=if k=1 then true else if k=5 then true else stF k code
def nmdF (k:Int):Bool:=decide (k=6∨k=7∨k=8)
def cdF (k:Int):Bool:=decide (k=4∨k=6∨k=8)
def XA0 (k code:Int):Bool:=if k=4 then inF code 1 3 else if k=6 then inF code 1 2 else if k=8 then inF code 1 4 else true
def Xiv (k code id:Int) (text:ByteArray) (nf nr:Nat):Bool :=
  if cdF k=false∧code≠0 then true else if nmdF k=false∧id≠0 then true else if wdF k code=false∧Xh0 text ByteArray.empty=false then true else if k≠6∧0 < nf then true else decide (k≠7∧0 < nr)
def Xd8 (k code:Int) (text:ByteArray):Int :=
  if XbH text=false then 12 else if (k=1∨k=5)∧Xh0 text ByteArray.empty=true then 11 else if k=5∧1024 < text.size then 10 else if stF k code=true∧XrU text=false then 13 else 0
def Xbt (k code id:Int) (text:ByteArray) (nf nr:Nat):Int :=
  if inF k 1 8=false then 3 else if XA0 k code=false then 3 else if Xiv k code id text nf nr=true then 15 else Xd8 k code text
abbrev Xbs (k code i:Int) (text:ByteArray) (h:Head) (f:List Item) (r:List Row):List PV:=[I k,I code,I i,S text,Xf h.props,I h.ins,I h.move,Xm h.dels,Xl h.lyrs,Xh f,XD r]
end Go.Proofs.YtlcphjcpoinolaaGreat
namespace Go.Proofs.YtlcphjcpoinolaaGreat
open Go.RowKit Go.Th
set_option maxRecDepth 20000
structure Plc where
  body:Bool
  note:Bool
  tables:Int
def XaA (p:Plc):List PV:=[B p.body,B p.note,I p.tables]
def XjE (s:CkS) (n:Int):CkS:={ s with units:=IntKind.i64.wrap (s.units+n) }
def XdZ (k i:Int) (t:ByteArray) (p:Plc) (s:CkS):Int × CkS :=
  if k=1 then (0,XjE s (IntKind.i64.wrap ((if XbH t=true then (XmW t:Int) else 0) - 1))) else if k=3 then (if p.body=true then (0,s) else (19,s)) else
  if k=6 then (if p.note=true then (19,s) else (idF s i,idS s i)) else if k=7 then (if 4≤p.tables then (17,s) else (idF s i,idS s i)) else
  if k=8 then (if inF i 1 1073741824=true then (0,s) else (18,s)) else (0,s)
mutual
def Xda:Item→Plc→CkS→Int × CkS
  | .mk k code i t h f r,p,s =>
    if Xbt k code i t f.length r.length=0 then
      (if (XdZ k i t p (XjE s 1)).1=0 then
        (if XcO (XdZ k i t p (XjE s 1)).2 k h=0 then
          (if k=6 then Xb5 f ⟨false,true,p.tables⟩ (XdZ k i t p (XjE s 1)).2 else if k=7 then
            Xe8 r ⟨false,p.note,IntKind.i64.wrap (p.tables+1)⟩ (XdZ k i t p (XjE s 1)).2
          else (0,(XdZ k i t p (XjE s 1)).2))
        else (XcO (XdZ k i t p (XjE s 1)).2 k h,(XdZ k i t p (XjE s 1)).2))
      else XdZ k i t p (XjE s 1))
    else (Xbt k code i t f.length r.length,s)
def Xe8:List Row→Plc→CkS→Int × CkS
  | [],_,s=>(11,s)
  | x::l,p,s=>if 256 < (x::l).length then (9,s) else if (XjX x p s).1=0 then Xfx l p (XjX x p s).2 else XjX x p s
def Xb5:List Item→Plc→CkS→Int × CkS
  | [],_,s=>(0,s)
  | x::l,p,s=>if (Xda x p s).1=0 then Xb5 l p (Xda x p s).2 else Xda x p s
def XjX:Row→Plc→CkS→Int × CkS
  | .mk h cs,p,s=>if XaG [XcO s 9 h,XbO (decide ((cs.length:Int)=0)) 11,XbO (decide ((32:Int) < cs.length)) 9]=0 then XdN cs p s else (XaG [XcO s 9 h,XbO (decide ((cs.length:Int)=0)) 11,XbO (decide ((32:Int) < cs.length)) 9],s)
def Xfx:List Row→Plc→CkS→Int × CkS
  | [],_,s=>(0,s)
  | x::l,p,s=>if (XjX x p s).1=0 then Xfx l p (XjX x p s).2 else XjX x p s
def XfR:Cell→Plc→CkS→Int × CkS
  | .mk i h f,p,s=>if idF s i=0 then (if XcO (idS s i) 10 h=0 then Xb5 f p (idS s i) else (XcO (idS s i) 10 h,idS s i)) else (idF s i,idS s i)
def XdN:List Cell→Plc→CkS→Int × CkS
  | [],_,s=>(0,s)
  | x::l,p,s=>if (XfR x p s).1=0 then XdN l p (XfR x p s).2 else XfR x p s
end
def Xqk (s:CkS):Prop:=∀ k,(Xdk s.e.eb k).getD (B false)=B (s.before k)
def Xcp (s s':CkS):Prop:=XeM s s'∧(Xqk s→Xqk s')
theorem Xcp.refl (s:CkS):Xcp s s:=⟨.refl s,fun h=>h⟩
theorem Xcp.trans {s t u:CkS} (h:Xcp s t) (k:Xcp t u):Xcp s u:=⟨h.1.trans k.1,fun g=>k.2 (h.2 g)⟩
theorem Xht (s:CkS) (n:Int):Xcp s (XjE s n):=⟨⟨rfl,rfl,rfl,rfl,rfl⟩,fun h=>h⟩
theorem XiZ (s:CkS) (i:Int):Xcp s (idS s i):=by
  unfold idS
  split
  · refine ⟨⟨rfl,rfl,rfl,rfl,rfl⟩,fun h k=>?_⟩
    show (Xdk (Xf8 s.e.eb s.e.tb i (B true)) k).getD (B false)=B (if k=i then true else s.before k)
    rw [Xfi]
    by_cases e:k=i
    · rw [if_pos e,if_pos e];rfl
    · rw [if_neg e,if_neg e];exact h k
  · exact .refl s
theorem Xj3 (k i:Int) (t:ByteArray) (p:Plc) (s:CkS):Xcp s (XdZ k i t p s).2:=by
  unfold XdZ
  repeat' split
  all_goals first | exact .refl s | exact Xht s _ | exact XiZ s i
mutual
theorem XfE:∀ (x:Item) (p:Plc) (s:CkS),Xcp s (Xda x p s).2
  | .mk k code i t h f r,p,s=>by
    have h1:=(Xht s 1).trans (Xj3 k i t p (XjE s 1))
    rw [Xda]
    repeat' split
    all_goals first | exact .refl s | exact h1 | exact h1.trans (XeW f _ _) | exact h1.trans (Xnq r _ _)
theorem Xnq:∀ (l:List Row) (p:Plc) (s:CkS),Xcp s (Xe8 l p s).2
  | [],_,s=>by rw [Xe8];exact .refl s
  | x::l,p,s=>by
    have h1:=Xe9 x p s
    rw [Xe8]
    split
    · exact .refl s
    split
    · exact h1.trans (Xh2 l p _)
    · exact h1
theorem XeW:∀ (l:List Item) (p:Plc) (s:CkS),Xcp s (Xb5 l p s).2
  | [],_,s=>by rw [Xb5];exact .refl s
  | x::l,p,s=>by
    have h1:=XfE x p s
    rw [Xb5]
    split
    · exact h1.trans (XeW l p _)
    · exact h1
theorem Xe9:∀ (x:Row) (p:Plc) (s:CkS),Xcp s (XjX x p s).2
  | .mk h cs,p,s=>by
    rw [XjX]
    split
    · exact Xhl cs p s
    · exact .refl s
theorem Xh2:∀ (l:List Row) (p:Plc) (s:CkS),Xcp s (Xfx l p s).2
  | [],_,s=>by rw [Xfx];exact .refl s
  | x::l,p,s=>by
    have h1:=Xe9 x p s
    rw [Xfx]
    split
    · exact h1.trans (Xh2 l p _)
    · exact h1
theorem Xit:∀ (x:Cell) (p:Plc) (s:CkS),Xcp s (XfR x p s).2
  | .mk i h f,p,s=>by
    have h1:=XiZ s i
    rw [XfR]
    repeat' split
    all_goals first | exact h1 | exact h1.trans (XeW f p _)
theorem Xhl:∀ (l:List Cell) (p:Plc) (s:CkS),Xcp s (XdN l p s).2
  | [],_,s=>by rw [XdN];exact .refl s
  | x::l,p,s=>by
    have h1:=Xit x p s
    rw [XdN]
    split
    · exact h1.trans (Xhl l p _)
    · exact h1
end
theorem CkH.good {c:CkId} {s:CkS} {K:List (Nat × Blk)} {H:Xi} (h:CkH c s K H):Xqk s:=by
  obtain ⟨es,el,er,eb,eu,ts,tl,tr,tb,tu,hG,a1,a2,a3,a4,a5,ae⟩:=h
  intro k
  rw [ae];exact a4 k
abbrev XqH (x:Item):Prop:=∀ (p:Plc) (c:CkId) (s:CkS) (K:List (Nat × Blk)) (G:Xi),CkH c s K G→AC Tryz.prog 119 [.ptr c.ic 0,.agg (Xo x),.agg (XaA p)] G (fun q G'=>q=I (Xda x p s).1∧CkH c (Xda x p s).2 K G')
abbrev Xiz (l:List Item):Prop:=∀ (p:Plc) (c:CkId) (s:CkS) (K:List (Nat × Blk)) (G:Xi),CkH c s K G→AC Tryz.prog 51 [.ptr c.ic 0,Xh l,.agg (XaA p)] G (fun q G'=>q=I (Xb5 l p s).1∧CkH c (Xb5 l p s).2 K G')
set_option maxHeartbeats 8000000 in
theorem Xpu (l:List Item) (p:Plc) (c:CkId) (s:CkS) (K:List (Nat × Blk)) (b3 b4 b5:Nat) (i:Nat) (x:Item) (hx:l[i]?=some x) (hl:l.length≤1000000) (hI:XqH x) (G:Xi)
    (hc:CkH c s ((b5,⟨XaA p,113,true⟩)::(b4,⟨[Xh l],22,true⟩)::(b3,⟨[.ptr c.ic 0],107,true⟩)::K) G) :
    AC Tryz.prog 118 [I i,.ptr b3 0,.ptr b4 0,.ptr b5 0] G (fun q G'=>q=I (Xda x p s).1∧CkH c (Xda x p s).2 ((b5,⟨XaA p,113,true⟩)::(b4,⟨[Xh l],22,true⟩)::(b3,⟨[.ptr c.ic 0],107,true⟩)::K) G'):=by
  have hst:=XfE x p s
  have hE:=Xjn hst.1 hc (hI p c s)
  have hU:=Xxk hst.1 (hst.2 hc.good) hc
  have hlt:=(List.getElem?_eq_some_iff.1 hx).1
  have ho:=Xp X4 l i x hx
  generalize (Xda x p s).1=v at hE ⊢
  generalize Xtz c (Xda x p s).2 G=G2 at hE hU ⊢
  generalize (Xda x p s).2=s2 at hU ⊢
  clear hst hI
  obtain ⟨k,code,j,t,h,f,r⟩:=x
  obtain ⟨es,el,er,eb,eu,ts,tl,tr,tb,tu,hG,a1,a2,a3,a4,a5⟩:=hc
  refine Xv Tryz.func118 rfl rfl rfl ?_
  refine Zc ?_
  refine Zb ?_
  repeat(first|refine Zd ?_)
  refine Za ?_
  refine Zc ?_
  refine XhT [6] [G2] G2 mixed (by decide +kernel) (N:=1) (by decide +kernel) rfl ?_
  repeat(first|refine Xw0 0 rfl (by decide +kernel) (by decide +kernel) rfl rfl rfl rfl (by decide) (Xj rfl rfl (hG.get 6 _ _ rfl) rfl) ?_|refine Xw0 0 rfl (by decide +kernel) (by decide +kernel) rfl rfl rfl rfl (by decide) (Xj rfl rfl (hG.get 7 _ _ rfl) rfl) ?_|refine Xw0 0 rfl (by decide +kernel) (by decide +kernel) rfl rfl rfl rfl (by decide) (Xj rfl rfl (hG.get 8 _ _ rfl) rfl) ?_|refine ZdX ?_|refine F_c 0 rfl (by decide +kernel) rfl rfl rfl rfl (by decide) (AC.K rfl rfl rfl rfl hE) rfl ?_|refine Zey ?_|refine Zb6 ?_)
  have hG:=Has.nil G2
  repeat(first|refine Zf ?_)
  exact XC rfl rfl ⟨rfl,hU⟩
def Xic (l:List Item) (p:Plc) (i:Nat) (s:CkS):Int × CkS:=match l[i]? with
  | some x=>Xda x p s
  | none=>(0,s)
theorem Xiw (l:List Item) (p:Plc):∀ (n i:Nat) (s:CkS),n+i=l.length→Xoj (Xic l p) n i s=Xb5 (l.drop i) p s
  | 0,i,s,h=>by rw [Xoj,List.drop_eq_nil_of_le (by omega),Xb5]
  | n+1,i,s,h=>by
    obtain ⟨x,hx⟩:∃ x,l[i]?=some x:=⟨_,List.getElem?_eq_getElem (by omega)⟩
    have e:Xic l p i s=Xda x p s:=by unfold Xic;rw [hx]
    rw [Xoj,X2 hx,Xb5,e]
    split
    · exact Xiw l p n (i+1) _ (by omega)
    · rfl
set_option maxHeartbeats 8000000 in
theorem XiW (l:List Item) (hl:l.length≤1000000) (hI:∀ x ∈ l,XqH x):Xiz l:=by
  intro p c s K H hc
  obtain ⟨es,el,er,eb,eu,ts,tl,tr,tb,tu,hG,a1,a2,a3,a4,a5⟩:=hc
  refine Xv Tryz.func51 rfl rfl rfl ?_
  refine Zc ?_
  refine Zb ?_
  repeat(first|refine Zd ?_|(refine ZH ?_;intro id G hG))
  refine Za ?_
  rename_i b3 _ _ b4 _ _
  obtain ⟨b5,hb5⟩:∃ b5,b5=id:=⟨_,rfl⟩
  rw [← hb5] at hG ⊢
  refine Xb8 (Has.swap6 [(b5,⟨XaA p,113,true⟩),(b4,⟨[Xh l],22,true⟩),(b3,⟨[.ptr c.ic 0],107,true⟩)] hG) ?_
  clear hG hb5
  intro G hG
  have hA:=fun G (hg:CkH c s ((b5,⟨XaA p,113,true⟩)::(b4,⟨[Xh l],22,true⟩)::(b3,⟨[.ptr c.ic 0],107,true⟩)::K) G) =>
    Xtl (σ:=CkS) (fun s G=>CkH c s ((b5,⟨XaA p,113,true⟩)::(b4,⟨[Xh l],22,true⟩)::(b3,⟨[.ptr c.ic 0],107,true⟩)::K) G) (Xic l p) l.length hl 118 [.ptr b3 0,.ptr b4 0,.ptr b5 0]
      (fun i s G hi hp=>by
        obtain ⟨x,hx⟩:∃ x,l[i]?=some x:=⟨_,List.getElem?_eq_getElem hi⟩
        have e:Xic l p i s=Xda x p s:=by unfold Xic;rw [hx]
        rw [e]
        exact Xpu l p c s K b3 b4 b5 i x hx hl (hI x (List.mem_of_getElem? hx)) G hp) s G hg
  rw [Xiw l p l.length 0 s (by omega),List.drop_zero] at hA
  repeat(first|refine Zes ?_|refine Zau ?_|(refine ZdM ?_;rintro _ G ⟨rfl,hq⟩)|refine Zav ?_)
  exact XC rfl rfl ⟨rfl,hq.cut [(b5,⟨XaA p,113,true⟩),(b4,⟨[Xh l],22,true⟩),(b3,⟨[.ptr c.ic 0],107,true⟩)]⟩
end Go.Proofs.YtlcphjcpoinolaaGreat
