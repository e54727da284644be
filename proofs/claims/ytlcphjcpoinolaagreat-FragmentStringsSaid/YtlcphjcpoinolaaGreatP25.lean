/- Part of the proof: the walk over the program and its laws: Mx Pm. -/
import Derived.Test.YtlcphjcpoinolaaGreatP0
import Derived.Test.YtlcphjcpoinolaaGreatP3
import Derived.Test.YtlcphjcpoinolaaGreatP24
import Derived.Test.YtlcphjcpoinolaaGreatP18
set_option linter.unusedVariables false
namespace Go.Th
open Go.RowKit
section
variable {K:Type} [DecidableEq K] {kd:TypeDesc} {ky:K→Value}
def Xss (es:XbC K) (k:K):XbC K:=match Xcc k es 0 with
  | none=>es
  | some (i,_)=>es.eraseIdx i
omit [DecidableEq K] in
theorem Xoy {m:Mp} {w:World} {es:XbC K} {l:List MapEntry} (h:EntsRep ky m w es l):∀ i,EntsRep ky m w (es.eraseIdx i) (l.eraseIdx i):=by
  induction h with
  | nil=>intro i;simp [EntsRep.nil]
  | cons h1 h2 h3 t ih =>
    intro i
    cases i with
    | zero=>simpa using t
    | succ i=>simpa using EntsRep.cons h1 h2 h3 (ih i)
variable {P:Program} {n:Nat} {Q:QA} {E:Env} {H:Xh} {ops:Array Oper} {rest:List Oper} {o:Oper} {t kt et kt':TypeId}
theorem Xxh {H':Xh} (hg:o.guard=none) (hd:o.dst=none)
    (h:∀ m w (ρ:Operand→Value),R m H w→(∀ x q,E.ev x=some q→Rep m w q (ρ x))→∃ v m' w',(execOp ρ o).run P w=.ok (.value v) w'∧Le m w m' w'∧R m' H' w')
    (k:wpL P n ops rest Q E H'):wpL P n ops (o::rest) Q E H:=by
  rintro rd m0 w0 a w ⟨h1,h2,m,h3,h4,h5⟩
  refine wpListIn_plain hg fun K hK=>?_
  obtain ⟨v,m',w',hrun,hle,hR⟩:=h m w a.eval h4 (fun x q hx=>h5.ev hx)
  refine XeA hrun ?_
  rw [hd]
  exact hK _ _ (k rd m0 w0 a w' ⟨h1,h2,m',h3.trans hle,hR,h5.mono h4.rk hle⟩)
theorem Xrc [hu:HasU P t (.map kt et)] [huk:HasU P kt kd] (hkk:KeyOk kd ky) {x y:Operand} {id:Nat} {key:K} {es:XbC K} {clock:Nat} {L:List (Nat × Blk)} (k:Nat) (hG:Has H L) (hg:o.guard=none) (hd:o.dst=none)
    (ho:o.op=.call { callee:=.builtin .delete,args:=#[x,y],argTypes:=#[t,kt'] }) (hx:E.ev x=some (.mp id)) (hy:E.ev y=some (.v (ky key))) (hk:L[k]?=some (id,XM ky es clock))
    (h:∀ G,Has G (L.set k (id,XM ky (Xss es key) clock))→wpL P n ops rest Q E G):wpL P n ops (o::rest) Q E H:=by
  have hB:=hG.get k id _ hk
  refine Xxh hg hd (H':=H.set id (some (XM ky (Xss es key) clock))) (fun m w ρ hR hρ=>?_) (h _ (hG.set hk _))
  obtain ⟨b,lim,l,e1,hm,hlim,hh,hents⟩:=Xei hR hB (hρ x _ hx)
  have e2:=XA (hρ y _ hy)
  have hlt:b < w.heap.size:=(Array.getElem?_eq_some_iff.1 hh).1
  have turn:∀ (l':Array MapEntry),EntsRep ky m w (Xss es key) l'.toList →
      R m (H.set id (some (XM ky (Xss es key) clock))) (Xkf w b (.map l' clock))∧Le m w m (Xkf w b (.map l' clock)):=fun l' hl'=>by
    refine hR.rewrite (w':=Xkf w b (.map l' clock)) hB rfl hm (cur':=#[.func (.func 0) #[] (Xej l' clock)]) (cs:=[.fn (.func 0) (Xgi ky (Xss es key) clock)])
      XgY rfl rfl rfl (fun j hj=>XfT hj) ⟨_,_,XgZ hlt,rfl⟩ (by simp [hlim]) (by simp [hlim]) (fun j c hj=>?_)
    cases j with
    | zero =>
      simp at hj;subst hj
      exact ⟨_,rfl,Xec.2 (show CR m w (Xgi ky (Xss es key) clock) (Xej l' clock).toList from Xbu (.v _ rfl) (Xnx hkk hl')),rfl⟩
    | succ j=>simp at hj
  have hck:(Instr.checkKey l.isEmpty 10000 kt (ky key)).run P w=.ok () w:=hkk.chk P kt _ w key huk.u
  rcases Xa2 hkk huk.u key hents with ⟨g1,g2⟩ | ⟨j,q,v,g1,g2,g3⟩
  · obtain ⟨r1,r2⟩:=turn l (by unfold Xss;rw [g1];exact hents)
    have hso:=Xdy (P:=P) (.map l clock) hh
    refine ⟨.tuple #[],m,_,?_,r2,r1⟩
    simp [execOp,ho,resolve,invoke,builtin,Builtin.delete_,e1,e2,run_underlying hu.u,XaN hh,hck,g2,hso]
  · have hsub:(l.eraseIdxIfInBounds j).toList=l.toList.eraseIdx j:=by
      unfold Array.eraseIdxIfInBounds
      split
      · simp
      · rename_i hj
        rw [List.eraseIdx_of_length_le (by simpa using hj)]
    obtain ⟨r1,r2⟩:=turn (l.eraseIdxIfInBounds j) (by unfold Xss;rw [g1,hsub];exact Xoy hents j)
    have hso:=Xdy (P:=P) (.map (l.eraseIdxIfInBounds j) clock) hh
    refine ⟨.tuple #[],m,_,?_,r2,r1⟩
    simp [execOp,ho,resolve,invoke,builtin,Builtin.delete_,e1,e2,run_underlying hu.u,XaN hh,hck,g2,hso]
def Xi6 (id clock:Nat):Blk:=⟨[.fn (.func 2) [.mp id,.v (.int .i64 (clock:Nat)),.v (.int .i64 (clock:Nat))]],0,true⟩
omit [DecidableEq K] in
theorem XqU [hu:HasU P t (.map kt et)] {x:Operand} {id:Nat} {es:XbC K} {clock:Nat} (ho:o.op=.range t x) (hx:E.ev x=some (.mp id)) (hB:H[id]?=some (some (XM ky es clock))) :
    OpW P o E H (.it H.length) (H++[some (Xi6 id clock)]):=fun m w ρ hR hρ=>by
  have hr:=hρ x _ hx
  obtain ⟨b,lim,l,e1,hm,hlim,hh,hents⟩:=Xei hR hB hr
  obtain ⟨a,c⟩:=hR.newObj (Xi6 id clock) (.mapIter (some b) clock #[] clock) 3 #[.func (.func 2) #[] #[.map (some b),.int .i64 (clock:Nat),.int .i64 (clock:Nat)]] ⟨b,clock,#[],clock,rfl,rfl⟩ (by simp [Xi6]) rfl (fun j c hj=>by
    cases j with
    | zero =>
      simp [Xi6] at hj;subst hj
      exact ⟨_,rfl,Xec.2 (Xbu (e1 ▸ hr) (Xbu (.v _ rfl) (Xbu (.v _ rfl) XiG))),rfl⟩
    | succ j=>simp [Xi6] at hj)
  refine ⟨.pointer (some ⟨w.heap.size,0,none⟩),_,_,?_,c,a,.it (b:=w.heap.size) (k:=1) (lim:=1) (by simp)⟩
  simp [execOp,ho,Instr.range,run_underlying hu.u,e1,XaN hh]
omit [DecidableEq K] in
theorem XnK [hu:HasU P t (.map kt et)] {d:Nat} {x:Operand} {id:Nat} {es:XbC K} {clock:Nat} {L:List (Nat × Blk)} (k:Nat) (hG:Has H L) (hg:o.guard=none) (hd:o.dst=some d) (hn:d < n) (ho:o.op=.range t x) (hx:E.ev x=some (.mp id)) (hk:L[k]?=some (id,XM ky es clock))
    (h:∀ it G,Has G ((it,Xi6 id clock)::L)→wpL P n ops rest Q ((d,.it it)::E) G):wpL P n ops (o::rest) Q E H :=
  XfK hg hd hn (XqU ho hx (hG.get k id _ hk)) (h _ _ (hG.new _))
theorem XuU {m:Mp} {H:Xh} {w:World} (hR:R m H w) {it id clock:Nat} (hB:H[it]?=some (some (Xi6 id clock))) {v:Value} (hr:Rep m w (.it it) v) :
    ∃ b bm lim,v=.pointer (some ⟨b,0,none⟩)∧m.blk id=some (bm,1,lim)∧w.heap[b]?=some (.mapIter (some bm) clock #[] clock):=by
  cases hr with
  | @it _ b k lim hm =>
    obtain ⟨_,⟨cur,hv,h2,h3,h4⟩,_⟩:=hR.blk it _ b (k+2) lim hB hm
    obtain ⟨u,hu,hru,_⟩:=h4 0 (.fn (.func 2) [.mp id,.v (.int .i64 (clock:Nat)),.v (.int .i64 (clock:Nat))]) rfl
    have hk:k=1:=by
      match k,hv with
      | 0,hv =>
        obtain ⟨_,_,_,rfl⟩:=hv
        simp at hu;subst hu
        cases hru
      | 1,_=>rfl
      | k+2,hv =>
        obtain ⟨_,_,_,_,_,_,_,_,_,_,_,he,_⟩:=hv
        cases he
    subst hk
    obtain ⟨bm,since,seen,last,h1,rfl⟩:=hv
    simp at hu
    subst hu
    have hc:=Xec.1 hru
    obtain ⟨v1,vs1,e1,r1,hc⟩:=Xa8 hc
    obtain ⟨v2,vs2,e2,r2,hc⟩:=Xa8 hc
    obtain ⟨v3,vs3,e3,r3,hc⟩:=Xa8 hc
    have hvs:vs3=[]:=by simpa using hc.1
    subst hvs;subst e3;subst e2
    simp only [List.cons.injEq] at e1
    obtain ⟨rfl,rfl,rfl,e4⟩:=e1
    have a1:=XA r2
    have a2:=XA r3
    injection a1 with _ a1
    injection a2 with _ a2
    have a1:since=clock:=by omega
    have a2:last=clock:=by omega
    subst a1;subst a2
    have hs:seen=#[]:=by
      have:seen.toList=[]:=by simpa using e4
      simpa using this
    subst hs
    cases r1 with
    | mp h=>exact ⟨b,bm,_,rfl,h,h1⟩
theorem XqZ {x:Operand} {it id clock:Nat} {c2:Nat} (ho:o.op=.next x false) (hx:E.ev x=some (.it it)) (hB:H[it]?=some (some (Xi6 id clock))) (hM:H[id]?=some (some (XM ky ([]:XbC K) c2))):OpV P o E H (.tup [.v (.bool false)]):=fun m w ρ hR hρ=>by
  have _i:DecidableEq K:=inferInstance
  obtain ⟨b,bm,lim,e1,hm,hh⟩:=XuU hR hB (hρ x _ hx)
  obtain ⟨b2,lim2,l,e2,hm2,_,hh2,hents⟩:=Xei (ky:=ky) hR hM (.mp hm)
  injection e2 with e2
  injection e2 with e2
  subst e2
  have hl:l=#[]:=by
    cases hl:l.toList with
    | nil=>simpa using hl
    | cons a r=>rw [hl] at hents;cases hents
  subst hl
  refine ⟨.tuple #[.bool false],?_,.tup _ rfl (fun j c hj=>?_)⟩
  · have hg:(getObj b).run P w=.ok (.mapIter (some bm) clock #[] clock) w:=by simp [getObj,Sem.run,hh]
    have hch:(choose (Question.mapNext 1)).run P w=.ok 0 w:=by simp [choose,Sem.run,Question.forced]
    simp [execOp,ho,Instr.next,e1,hg,XaN hh2]
    intro h
    simp [Question.forced] at h
  · cases j with
    | zero=>simp at hj;subst hj;exact .v _ rfl
    | succ j=>simp at hj
end
end Go.Th
namespace Go.Proofs.YtlcphjcpoinolaaGreat
open Go.RowKit Go.Th
set_option maxRecDepth 20000
mutual
def hdI (A:Head→Prop):Item→Prop
  | .mk _ _ _ _ h f r=>A h∧XcA A f∧Xlm A r
def XcA (A:Head→Prop):List Item→Prop
  | []=>True
  | x::l=>hdI A x∧XcA A l
def Xlm (A:Head→Prop):List Row→Prop
  | []=>True
  | .mk h c::l=>A h∧Xnn A c∧Xlm A l
def Xnn (A:Head→Prop):List Cell→Prop
  | []=>True
  | .mk _ h f::l=>A h∧XcA A f∧Xnn A l
end
section
variable {σ:Type} {J:σ→Prop} {L:σ→List (Nat × Blk)} {g:FuncId} {cap:List PV} {A:Head→Prop} (hA:∀ h,A h→XoL J L g cap h)
include hA
mutual
theorem XuT:∀ (x:Item),XbH x≤300→hdI A x→ItmC J L g cap x
  | .mk k c i t h f r,hc,hh=>by
    rw [XbH] at hc
    rw [hdI] at hh
    have h1:=XaH f
    have h2:=Xcf r
    have e1:=Xjb J L g cap f (by omega) (XgF f (by omega) hh.2.1)
    have e2:=Xka r (by omega) hh.2.2
    exact ⟨fun k' c' i' t' h' f' r' e=>by
      injection e with _ _ _ _ a b d
      subst a;subst b;subst d
      exact ⟨hA _ hh.1,e1,by omega,e2⟩⟩
theorem XgF:∀ (l:List Item),Xz l≤300→XcA A l→∀ x ∈ l,ItmC J L g cap x
  | [],_,_=>fun x h=>by have _i:=hA;simp at h
  | x::l,hc,hh=>by
    have _i:=hA
    rw [Xz] at hc
    rw [XcA] at hh
    intro y hy
    rcases List.mem_cons.1 hy with e | hy
    · rw [e];exact XuT x (by omega) hh.1
    · exact XgF l (by omega) hh.2 y hy
theorem Xka:∀ (l:List Row),XbZ l≤300→Xlm A l→∀ x ∈ l,RowC J L g cap x
  | [],_,_=>fun x h=>by simp at h
  | .mk h0 cs0::l,hc,hh=>by
    rw [XbZ,XfA] at hc
    rw [Xlm] at hh
    have h1:=Xcg cs0
    have h2:=Xiz cs0 (by omega) hh.2.1
    intro y hy
    rcases List.mem_cons.1 hy with e1 | hy
    · rw [e1]
      exact ⟨fun h cs e=>by
        injection e with a b
        subst a;subst b
        exact ⟨hA _ hh.1,by omega,h2⟩⟩
    · exact Xka l (by omega) hh.2.2 y hy
theorem Xiz:∀ (l:List Cell),Xco l≤300→Xnn A l→∀ y ∈ l,∀ i h f,y=.mk i h f→XoL J L g cap h∧Xli J L g cap f
  | [],_,_=>fun x h=>by simp at h
  | .mk i0 h0 f0::l,hc,hh=>by
    rw [Xco,XfB] at hc
    rw [Xnn] at hh
    have h1:=XaH f0
    have h2:=XgF f0 (by omega) hh.2.1
    intro y hy i h f e
    rcases List.mem_cons.1 hy with e1 | hy
    · rw [e1] at e
      injection e with a b d
      subst b;subst d
      exact ⟨hA _ hh.1,Xjb J L g cap f0 (by omega) h2⟩
    · exact Xiz l (by omega) hh.2.2 y hy i h f e
end
theorem Xp2 (l:List Item) (hc:Xz l≤300) (hh:XcA A l):Xli J L g cap l:=Xjb J L g cap l (by have:=XaH l;omega) (XgF hA l hc hh)
end
def Xdp (h:Head):Prop:=h.ins=0∧h.dels=[]∧h.lyrs=[]
def Xpb (b:Bool):XbC Int:=if b then [(0,B true,0)] else []
def Xpa (b:Bool):Nat:=if b then 1 else 0
theorem Xrt (b:Bool):Xgt (Xpb b) (Xpa b) 0 (B true)=Xpb true∧Xgu (Xpb b) (Xpa b) 0=Xpa true:=by
  cases b <;> exact ⟨rfl,rfl⟩
set_option maxHeartbeats 16000000 in
theorem Xm0 (im:Nat) (h:Head) (hh:Xdp h):XoL (fun _:Bool=>True) (fun b=>[(im,XM kyI (Xpb b) (Xpa b))]) 120 [.ept [.mp im] 0] h:=by
  obtain ⟨h1,h2,h3⟩:=hh
  obtain ⟨ps,ins,mv,ds,ls⟩:=h
  dsimp only at h1 h2 h3
  subst h1;subst h2;subst h3
  intro b G K _ hG
  have hG:Has G ((im,XM kyI (Xpb b) (Xpa b))::K):=hG
  obtain ⟨u1,u2⟩:=Xrt b
  refine Xw Tryz.func120 rfl rfl rfl ?_
  refine Zc ?_
  refine Zb ?_
  repeat(first|(refine ZI ?_;intro id G hG))
  refine Za ?_
  refine XD 2 hG rfl ?_
  clear hG
  intro G hG
  repeat(first|refine Zd1 ?_|(refine XiJ (XcQ .i64) 0 hG rfl rfl rfl rfl rfl rfl rfl ?_;intro G hG))
  have hG:Has G ((im,XM kyI (Xpb true) (Xpa true))::K):=by rw [← u1,← u2];exact hG
  clear u1 u2
  refine Xg (S:=Unit) (fun _=>[(2,.ept (XN ⟨ps,0,mv,[],[]⟩) 0),(14,I 0),(15,I 0)]) (fun _ G=>Has G ((im,XM kyI (Xpb true) (Xpa true))::K)) (fun _=>0) ()
    (.cons rfl (.cons rfl (.cons rfl (.nil _)))) hG ?_
  clear hG
  rintro _ G hG
  repeat(first|refine Zd1 ?_)
  refine Xg (S:=Unit) (fun _=>[(26,I 0),(27,I 0)]) (fun _ G=>Has G ((im,XM kyI (Xpb true) (Xpa true))::K)) (fun _=>0) ()
    (.cons rfl (.cons rfl (.nil _))) hG ?_
  clear hG
  rintro _ G hG
  repeat(first|refine Zd1 ?_|refine ZaC ?_|refine ZaD ?_)
  exact XcO rfl (.inl rfl) ⟨rfl,true,trivial,hG⟩
theorem Xde:Xi Xaw:=Xi.v _
theorem Xol:Iso Tryz.prog 218 [Xaw,I 0,I 0] (fun p=>p=.tup []):=by
  have hG:=Xc
  refine Xb Tryz.func218 rfl rfl rfl ?_
  repeat(first|refine Zd1 ?_)
  refine Xg (S:=Unit) (fun _=>[(0,Xaw),(1,I 0),(2,I 0),(6,I 1)]) (fun _ G=>Has G []) (fun _=>0) ()
    (.cons rfl (.cons rfl (.cons rfl (.cons rfl (.nil _))))) hG ?_
  clear hG
  rintro _ G hG
  repeat(first|refine Zd1 ?_|refine ZaC ?_|refine ZaD ?_)
  exact XlE rfl (.inl rfl) rfl
theorem XuF (k:Int):Iso Tryz.prog 205 [Xaw,I 0,I 0,I k] (fun p=>p=.tup []):=by
  have hG:=Xc
  refine Xb Tryz.func205 rfl rfl rfl ?_
  repeat(first|refine Zd1 ?_)
  refine Xg (S:=Unit) (fun _=>[(0,Xaw),(1,I 0),(2,I 0),(3,I k)]) (fun _ G=>Has G []) (fun _=>0) ()
    (.cons rfl (.cons rfl (.cons rfl (.cons rfl (.nil _))))) hG ?_
  clear hG
  rintro _ G hG
  repeat(first|refine Zd1 ?_|(refine Xr rfl rfl rfl rfl rfl rfl (by decide) Xol (TreeL.cons Xde (TreeL.cons (Xe _) (TreeL.cons (Xe _) TreeL.nil))) ?_;rintro _ rfl)|refine ZbM ?_)
  exact XlE rfl (.inr rfl) rfl
theorem XuQ:Iso Tryz.prog 227 [.v (.int .u64 0)] (fun p=>p=I 0):=by
  have hG:=Xc
  refine Xb Tryz.func227 rfl rfl rfl ?_
  repeat(first|refine Zd1 ?_|refine Xj rfl rfl (by decide) (Xaa (b:=0) rfl rfl rfl) ?_)
  refine Xj rfl rfl (by decide) (XhM 0 rfl rfl rfl (by decide +kernel) (by decide +kernel)) ?_
  repeat(first|refine Zd1 ?_|refine Xj rfl rfl (by decide) (Xaa (b:=0) rfl rfl rfl) ?_)
  exact ZE
theorem XBq:Iso Tryz.prog 206 [.v (.int .u64 0)] (fun p=>p=I 0):=by
  have hG:=Xc
  refine Xb Tryz.func206 rfl rfl rfl ?_
  repeat(first|refine Zd1 ?_|refine Zay ?_|(refine Xr rfl rfl rfl rfl rfl rfl (by decide) XuQ (TreeL.cons (Xi.v _) TreeL.nil) ?_;rintro _ rfl))
  exact ZE
theorem Xrp:Iso Tryz.prog 184 [Xaw] (fun p=>p=.tup []):=by
  have hG:=Xc
  refine Xb Tryz.func184 rfl rfl rfl ?_
  repeat(first|refine Zd1 ?_|refine ZJ ?_|refine Xj rfl rfl (by decide) (Xaa rfl rfl rfl) ?_|(refine Xr rfl rfl rfl rfl rfl rfl (by decide) XBq (TreeL.cons (Xi.v _) TreeL.nil) ?_;rintro _ rfl)|(refine Xr rfl rfl rfl rfl rfl rfl (by decide) (XuF 0) (TreeL.cons Xde (TreeL.cons (Xe _) (TreeL.cons (Xe _) (TreeL.cons (Xe _) TreeL.nil)))) ?_;rintro _ rfl))
  exact XlE rfl (.inl rfl) rfl
theorem Xr5 (im c:Nat):XBH Tryz.prog 185 [.ept [.mp im] 0] [(im,XM kyI [] c)] [(im,XM kyI [] c)] [] False:=by
  intro lid S J X L hcut hy s G K h0 hG0
  have hG:Has G ((im,XM kyI [] c)::(L s++K)):=hG0.swapL
  clear hG0
  refine Xw Tryz.func185 rfl rfl rfl ?_
  repeat(first|refine Zd1 ?_|(refine XnK 0 hG rfl rfl (by decide) rfl rfl rfl ?_;intro it G hG))
  refine Xg (S:=Unit) (fun _=>[(5,.it it)]) (fun _ G=>Has G ((it,Xi6 im c)::(im,XM kyI [] c)::(L s++K))) (fun _=>0) ()
    (.cons rfl (.nil _)) hG ?_
  clear hG
  rintro _ G hG
  repeat(first|refine Zd1 ?_|refine Xj rfl rfl (by decide) (XqZ rfl rfl (hG.get 0 _ _ rfl) (hG.get 1 _ _ rfl)) ?_|refine ZS ?_|refine ZaC ?_|refine ZaD ?_)
  exact XcO rfl (.inl rfl) ⟨s,hG.tail.swapL (A:=[(im,XM kyI [] c)]),.inl h0⟩
theorem XjJ (im c:Nat) (K:List (Nat × Blk)) (G:Xh) (hG:Has G ((im,XM kyI [] c)::K)):AC Tryz.prog 204 [Xaw,.fn (.func 185) [.ept [.mp im] 0]] G (fun p G'=>p=Xaw∧Has G' ((im,XM kyI [] c)::K)):=by
  refine Xw Tryz.func204 rfl rfl rfl ?_
  repeat(first|refine Zd1 ?_|(refine ZI ?_;intro id G hG))
  refine XjW (S:=Unit) (xs:=[]) (C:=[(im,XM kyI [] c)]) (C':=[(im,XM kyI [] c)]) (K:=K) (cut:=False)
    (L:=fun _=>[(id,⟨[Xaw],57,true⟩)]) (I:=fun _ _=>True) (X:=fun _ _=>False) rfl (Xr5 im c) (fun h=>h.elim) (fun a h=>by simp at h) (by decide) () trivial hG ?_ ?_ ?_
  · rintro j args s G K' hj
    simp at hj
  · rintro s G _ hG
    repeat(first|refine Zd1 ?_)
    exact XG rfl rfl ⟨rfl,hG.tail⟩
  · rintro k s G h
    exact h.elim
theorem Xmn (im c:Nat) (K:List (Nat × Blk)) (G:Xh) (hG:Has G ((im,XM kyI [] c)::K)):AC Tryz.prog 183 [.fn (.func 185) [.ept [.mp im] 0]] G (fun p G'=>p=Xaw∧Has G' ((im,XM kyI [] c)::K)):=by
  refine Xw Tryz.func183 rfl rfl rfl ?_
  repeat(first|refine Zd1 ?_|(refine X0 rfl rfl rfl rfl rfl rfl (by decide) (XjJ im c K _ hG) ?_;rintro _ G ⟨rfl,hG⟩))
  exact Zbs
theorem XnW (im c:Nat) (K:List (Nat × Blk)) (G:Xh) (hG:Has G ((im,XM kyI [] c)::K)):AC Tryz.prog 122 [.fn (.func 185) [.ept [.mp im] 0]] G (fun p G'=>p=Xaw∧Has G' ((im,XM kyI [] c)::K)):=by
  refine Xw Tryz.func122 rfl rfl rfl ?_
  repeat(first|refine Zd1 ?_|(refine X0 rfl rfl rfl rfl rfl rfl (by decide) (Xmn im c K _ hG) ?_;rintro _ G ⟨rfl,hG⟩)|(refine Xr rfl rfl rfl rfl rfl rfl (by decide) Xrp (TreeL.cons Xde TreeL.nil) ?_;rintro _ rfl))
  exact Zbs
theorem XuR (im:Nat) (L:List (Nat × Blk)) (G:Xh) (hG:Has G L):AC Tryz.prog 123 [.mp im] G (fun p G'=>p=.fn (.func 185) [.ept [.mp im] 0]∧Has G' L):=by
  refine Xw Tryz.func123 rfl rfl rfl ?_
  refine Zc ?_
  refine Zb ?_
  repeat(first|refine Zd ?_|(refine ZI ?_;intro id G hG))
  refine Za ?_
  refine ZaE ?_
  clear hG
  intro G hG
  repeat(first|refine Zd1 ?_|refine ZaH ?_)
  exact Zbs
set_option maxHeartbeats 16000000 in
theorem XmZ (d:Doc) (hc:Xz d.flow≤300) (hh:XcA Xdp d.flow) (hf:Xdp d.fin):Iso Tryz.prog 52 [.agg (X3 d)] (fun p=>p=Xaw):=by
  have hG:=Xc
  refine Xb Tryz.func52 rfl rfl rfl ?_
  refine Zc ?_
  refine Zb ?_
  repeat(first|refine Zd ?_|(refine ZI ?_;intro id G hG))
  refine Za ?_
  refine ZaE ?_
  clear hG
  intro G hG
  refine Zc ?_
  refine Zb ?_
  repeat(first|(refine XiK kyI hG rfl rfl (by decide) rfl ?_;intro im G hG)|(refine ZA ?_;intro G hG)|(refine ZD ?_;intro id G hG))
  refine Za ?_
  have hG:Has G [(id,⟨[.mp im],115,true⟩),(im,XM kyI [] 0)]:=hG
  refine XD 3 hG rfl ?_
  clear hG
  intro G hG
  have hH:=Xp2 (J:=fun _:Bool=>True) (L:=fun b=>[(im,XM kyI (Xpb b) (Xpa b))]) (g:=120) (cap:=[.ept [.mp im] 0]) (Xm0 im) d.flow hc hh false G [] trivial hG
  repeat(first|refine Zd7 ?_|refine ZaH ?_|(refine X0 rfl rfl rfl rfl rfl rfl (by decide) hH ?_;rintro _ G ⟨rfl,b,_,hG⟩))
  refine X0 rfl rfl rfl rfl rfl rfl (by decide) (Xm0 im d.fin hf b _ [] trivial hG) ?_
  rintro _ G ⟨rfl,b,_,hG⟩
  clear hH
  have hG:Has G [(im,XM kyI (Xpb b) (Xpa b))]:=hG
  have hd:Xss (Xpb b) 0=[]:=by cases b <;> rfl
  generalize Xpa b=c at hG
  repeat(first|refine Zd7 ?_|(refine Xrc (XcQ .i64) 0 hG rfl rfl rfl rfl rfl rfl ?_;intro G hG))
  have hG:Has G [(im,XM kyI [] c)]:=by rw [← hd];exact hG
  refine X0 rfl rfl rfl rfl rfl rfl (by decide) (XuR im _ _ hG) ?_
  rintro _ G ⟨rfl,hG⟩
  refine X0 rfl rfl rfl rfl rfl rfl (by decide) (XnW im c _ _ hG) ?_
  rintro _ G ⟨rfl,hG⟩
  repeat(first|refine Zd1 ?_)
  exact XJ rfl rfl (.refl _) Xde rfl
theorem XpA (d:Doc) (hc:Xz d.flow≤300) (hh:XcA Xdp d.flow) (hf:Xdp d.fin) (td:∀ c ∈ X3 d,Xi c):Iso Tryz.prog 20 [.agg (X3 d)] (fun p=>p=B true):=by
  have hG:=Xc
  have hu:=XmZ d hc hh hf
  have tu:∀ c ∈ [PV.agg (X3 d)],Xi c:=TreeL.cons (Xi.agg td) TreeL.nil
  refine Xb Tryz.func20 rfl rfl rfl ?_
  repeat(first|refine Zd1 ?_|(refine Xr rfl rfl rfl rfl rfl rfl (by decide) hu tu ?_;rintro _ rfl)|(refine ZI ?_;intro id G hG))
  exact ZE
end Go.Proofs.YtlcphjcpoinolaaGreat
