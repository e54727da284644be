/- Part of the proof: the walk over the program and its laws: ThB. -/
import Derived.Orders
import Derived.OwnWalk
import Derived.Test.YtlcphjcpoinolaaGreatP0
import Derived.Test.YtlcphjcpoinolaaGreatP1
set_option linter.unusedVariables false
namespace Go.Th
open Go.RowKit
def Xbg (o:Oper):List Nat:=o.op.operands.toList.filterMap fun | .tmp t=>some t | _=>none
def XY (o:Oper) (E:Env):Env:=E.only (Xbg o)
def OpK (P:Program) (o:Oper) (E:Env) (H:Xh) (p:PV) (H':Xh):Prop :=
  ∀ rd m w (a:Act) (K:Act→World→Prop) (Q:Exit→Act→World→Prop),R m H w→(∀ x q,E.ev x=some q→Rep m w q (a.eval x)) →
    (∀ v m' w',Le m w m' w'→R m' H' w'→Rep m' w' p v→K (a.put o.dst v) w')→o.wpIn (fen rd) 0 P a w K Q
section
variable {P:Program} {o:Oper} {E:Env} {H H':Xh} {p:PV}
theorem OpV.K (h:OpV P o E H p):OpK P o E H p H:=fun rd m w a K Q hR hρ k=>by
  obtain ⟨v,hrun,hr⟩:=h m w a.eval hR hρ
  refine XeA hrun ?_
  exact k v m w (Le.refl m w) hR hr
theorem OpW.K (h:OpW P o E H p H'):OpK P o E H p H':=fun rd m w a K Q hR hρ k=>by
  obtain ⟨v,m',w',hrun,hle,hR',hr⟩:=h m w a.eval hR hρ
  refine XeA hrun ?_
  first
    | exact ⟨v,rfl,k v m' w' hle hR' hr⟩
    | exact k v m' w' hle hR' hr
theorem OpS.K (h:OpS P o E H H'):OpK P o E H (.v undef) H':=fun rd m w a K Q hR hρ k=>by
  obtain ⟨m',w',hrun,hle,hR'⟩:=h m w a.eval hR hρ
  refine XpB hrun ?_
  exact k undef m' w' hle hR' (.v _ rfl)
theorem Iso.K {c:Call} {x:Operand} {g:FuncId} {cap args:List PV} (ho:o.op=.call c) (hc:c.callee=.value x) (hx:E.ev x=some (.fn (.func g) cap))
    (ha:evs E c.args.toList=some args) (h:Iso P g (args++cap) (fun q=>q=p)) (ht:∀ c ∈ args++cap,Xi c):OpK P o E H p H:=fun rd m w a K Q hR hρ k=>by
  obtain ⟨vs,hvs,hrun⟩:=XjG (P:=P) (m:=m) (w:=w) (ρ:=a.eval) ho hc (hρ x _ hx) h.1
  refine Xi0 hrun ?_
  have hargs:XeK m w args (c.args.map a.eval):=by
    obtain ⟨e1,e2⟩:=Xdb (m:=m) (w:=w) (ρ:=a.eval) hρ c.args.toList args ha
    refine ⟨by simp [e1],fun j q hj=>?_⟩
    have:=e2 j q hj
    simpa [Array.getD_eq_getD_getElem?,List.getD_eq_getElem?_getD] using this
  refine ((h.AC (H:=H) ht).2 m w _ hR (hargs.append hvs)).mono ?_
  rintro e w' ⟨v,q,H',m',rfl,⟨rfl,rfl⟩,hr,hR',hle⟩
  first
    | exact ⟨v,rfl,k v m' w' hle hR' hr⟩
    | exact k v m' w' hle hR' hr
theorem AC.K {c:Call} {x:Operand} {g:FuncId} {cap args:List PV} (ho:o.op=.call c) (hc:c.callee=.value x) (hx:E.ev x=some (.fn (.func g) cap))
    (ha:evs E c.args.toList=some args) (h:AC P g (args++cap) H (fun q G=>q=p∧G=H')):OpK P o E H p H':=fun rd m w a K Q hR hρ k=>by
  obtain ⟨vs,hvs,hrun⟩:=XjG (P:=P) (m:=m) (w:=w) (ρ:=a.eval) ho hc (hρ x _ hx) h.1
  refine Xi0 hrun ?_
  have hargs:XeK m w args (c.args.map a.eval):=by
    obtain ⟨e1,e2⟩:=Xdb (m:=m) (w:=w) (ρ:=a.eval) hρ c.args.toList args ha
    refine ⟨by simp [e1],fun j q hj=>?_⟩
    have:=e2 j q hj
    simpa [Array.getD_eq_getD_getElem?,List.getD_eq_getElem?_getD] using this
  refine (h.2 m w _ hR (hargs.append hvs)).mono ?_
  rintro e w' ⟨v,q,G,m',rfl,⟨rfl,rfl⟩,hr,hR',hle⟩
  first
    | exact ⟨v,rfl,k v m' w' hle hR' hr⟩
    | exact k v m' w' hle hR' hr
end
def edgeOn (o:Oper) (j:Nat):Bool:=o.after.toList.any fun e=>Region.binds .any e && Nat.beq e.on j
def Xfs (acc:List Nat) (o:Oper):Nat:=o.after.toList.foldl (fun s e=>if Region.binds .any e then s ||| 2 ^ e.on ||| acc.getD e.on 0 else s) 0
def bef:List Oper→List Nat→List Nat
  | [],acc=>acc
  | o::r,acc=>bef r (acc++[Xfs acc o])
def Xsp (l:List Oper):Bool:=l.zipIdx.all fun (o,i)=>o.after.toList.all fun e=>!Region.binds .any e || Nat.blt e.on i
def XfH (ops:Array Oper) (listed:Array Bool):Prop:=∀ (i:Nat) (o:Oper),ops[i]?=some o→listed.getD i false=true→∀ e ∈ o.after,Region.binds .any e=true→listed.getD e.on false=true
theorem XcP {acc:List Nat} {o:Oper} {j:Nat} (h:(Xfs acc o).testBit j=true):∃ e ∈ o.after,Region.binds .any e=true∧(e.on=j∨(acc.getD e.on 0).testBit j=true):=by
  have key:∀ (l:List Edge) (s:Nat),(l.foldl (fun s e=>if Region.binds .any e then s ||| 2 ^ e.on ||| acc.getD e.on 0 else s) s).testBit j=true →
      s.testBit j=true∨∃ e ∈ l,Region.binds .any e=true∧(e.on=j∨(acc.getD e.on 0).testBit j=true):=by
    intro l
    induction l with
    | nil=>intro s h;exact .inl h
    | cons e l ih =>
      intro s h
      simp only [List.foldl_cons] at h
      rcases ih _ h with h1 | ⟨e',he',h1⟩
      · by_cases hb:Region.binds .any e=true
        · rw [if_pos hb,Nat.testBit_or,Nat.testBit_or,Nat.testBit_two_pow] at h1
          simp only [Bool.or_eq_true,decide_eq_true_eq] at h1
          rcases h1 with (h1 | h1) | h1
          · exact .inl h1
          · exact .inr ⟨e,by simp,hb,.inl h1⟩
          · exact .inr ⟨e,by simp,hb,.inr h1⟩
        · rw [if_neg hb] at h1;exact .inl h1
      · exact .inr ⟨e',by simp [he'],h1⟩
  rcases key _ _ h with h1 | ⟨e,he,h1⟩
  · simp at h1
  · exact ⟨e,by simpa using he,h1⟩
theorem Xcy {ops:Array Oper} {listed:Array Bool} (hc:XfH ops listed):∀ (l:List Oper) (acc:List Nat),(∀ (k:Nat),l[k]?=ops[acc.length+k]?) →
    (∀ i j,i < acc.length→(acc.getD i 0).testBit j=true→listed.getD i false=true→listed.getD j false=true) →
    ∀ i j,((bef l acc).getD i 0).testBit j=true→listed.getD i false=true→listed.getD j false=true
  | [],acc,_,h,i,j=>fun hb hl=>by
    rcases Nat.lt_or_ge i acc.length with hlt | hge
    · exact h i j hlt hb hl
    · simp only [bef,List.getD_eq_getElem?_getD,List.getElem?_eq_none hge] at hb;simp at hb
  | o::r,acc,hl,h,i,j=>by
    refine Xcy hc r (acc++[Xfs acc o]) (fun k=>?_) (fun i j hi hb hli=>?_) i j
    · have:=hl (k+1)
      simpa [Nat.add_assoc,Nat.add_comm 1 k] using this
    · have ho:ops[acc.length]?=some o:=by have:=hl 0;simpa using this.symm
      rcases Nat.lt_or_ge i acc.length with hlt | hge
      · rw [List.getD_eq_getElem?_getD,List.getElem?_append_left hlt,← List.getD_eq_getElem?_getD] at hb
        exact h i j hlt hb hli
      · have e:i=acc.length:=by simp at hi;omega
        subst e
        rw [List.getD_eq_getElem?_getD,List.getElem?_append_right (Nat.le_refl _)] at hb
        simp at hb
        obtain ⟨e,he,hbind,h1⟩:=XcP hb
        have hle:=hc _ o ho hli e he hbind
        rcases h1 with h1 | h1
        · exact h1 ▸ hle
        · rcases Nat.lt_or_ge e.on acc.length with hlt | hge
          · exact h e.on j hlt h1 hle
          · rw [List.getD_eq_getElem?_getD,List.getElem?_eq_none hge] at h1;simp at h1
def Xa3 (bs:List Nat) (j i:Nat):Bool:=(bs.getD i 0).testBit j
def Xs (o:Oper):Bool :=
  match o.op with
  | .store .. | .alloc _ | .box .. | .buildSlice ..=>true
  | .call { callee:=.builtin .append,.. }=>true
  | .call { callee:=.value _,.. }=>Nat.beq o.type 0
  | _=>false
def slotOf (o:Oper):List Nat:=o.dst.toList
def Xf6 (l:List Oper):Bool :=
  let bs:=bef l []
  Xsp l &&
  (l.zipIdx.all fun (oi,i)=>l.zipIdx.all fun (oj,j)=>Nat.beq i j ||
    ((oi.dst.all fun d=>!(Xbg oj).contains d || (if i < j then Xa3 bs i j else Xa3 bs j i)) &&
     (oi.dst.all fun d=>oj.dst.all fun d'=>!Nat.beq d d') &&
     (!(Xs oi && Xs oj) || (if i < j then Xa3 bs i j else Xa3 bs j i)))) &&
  (l.zipIdx.all fun (o,i)=>match o.guard with
    | none=>true
    | some (j,_)=>Xa3 bs j i && Nat.blt j i && !Xs o)
def Xaz (l:List Oper) (i:Nat):Nat:=(l.zipIdx.filter fun (o,j)=>Xs o && Xa3 (bef l []) j i).length
def XaO (l:List Oper) (i:Nat):Nat:=(l.zipIdx.filter fun (o,j)=>Xs o && !Xa3 (bef l []) i j).length
def Xac:List Oper→List PV→Env→Env
  | o::os,p::ps,E=>Xac os ps (match o.dst with | some d=>(d,p)::E | none=>E)
  | _,_,E=>E
theorem XbX:∀ (l:List Oper) (vals:List PV) (E:Env) (t:Nat) (p:PV),(Xac l vals E).get t=some p →
    (∃ (j:Nat) (o:Oper),j < vals.length∧l[j]?=some o∧o.dst=some t∧vals[j]?=some p)∨(E.get t=some p∧∀ (j:Nat) (o:Oper),j < vals.length→l[j]?=some o→o.dst≠some t)
  | [],vals,E,t,p,h=>.inr ⟨by simpa [Xac] using h,fun j o _ hj=>by simp at hj⟩
  | o::os,[],E,t,p,h=>.inr ⟨by simpa [Xac] using h,fun j o hj=>by simp at hj⟩
  | o::os,q::ps,E,t,p,h=>by
    simp only [Xac] at h
    rcases XbX os ps _ t p h with ⟨j,o',h1,h2,h3,h4⟩ | ⟨h1,h2⟩
    · exact .inl ⟨j+1,o',by simp;omega,by simpa using h2,h3,by simpa using h4⟩
    · cases hd:o.dst with
      | none =>
        rw [hd] at h1
        refine .inr ⟨h1,fun j o' hj hl=>?_⟩
        cases j with
        | zero=>simp at hl;subst hl;rw [hd];simp
        | succ j=>exact h2 j o' (by simp at hj;omega) (by simpa using hl)
      | some d =>
        rw [hd] at h1
        simp only at h1
        rw [Env.get_cons] at h1
        by_cases e:d=t
        · subst e
          rw [if_pos rfl] at h1;cases h1
          exact .inl ⟨0,o,by simp,rfl,hd,rfl⟩
        · rw [if_neg e] at h1
          refine .inr ⟨h1,fun j o' hj hl=>?_⟩
          cases j with
          | zero=>simp at hl;subst hl;rw [hd];simpa using e
          | succ j=>exact h2 j o' (by simp at hj;omega) (by simpa using hl)
def XdG (l:List Oper) (i:Nat):Nat:=((l.take i).filter Xs).length
def DF (P:Program) (n:Nat) (l:List Oper) (vals:List PV) (Hs:Nat→Xh) (E0:Env) (i:Nat) (o:Oper) (p:PV):Prop :=
  (∀ d,o.dst=some d→d < n) ∧
  match o.guard with
  | none=>match Xs o with
    | true=>OpK P o (XY o (Xac (l.take i) (vals.take i) E0)) (Hs (XdG l i)) p (Hs (XdG l i+1))
    | false=>∀ k,Xaz l i≤k→k≤XaO l i→OpK P o (XY o (Xac (l.take i) (vals.take i) E0)) (Hs k) p (Hs k)
  | some (j,want)=>∃ b oj,vals[j]?=some (.v (.bool b))∧l[j]?=some oj∧oj.dst.isSome=true ∧
      (b=want→∀ k,Xaz l i≤k→k≤XaO l i→OpK P o (XY o (Xac (l.take i) (vals.take i) E0)) (Hs k) p (Hs k))∧(b≠want→p=.v undef)
section
variable {P:Program} {n:Nat} {l:List Oper}
theorem Xfz {α:Type} (l:List α) (p q:α→Bool) (h:∀ x ∈ l,p x=true→q x=true):l.countP p≤l.countP q:=List.countP_mono_left h
def Xa0 (l:List Oper) (i:Nat):Bool:=(l[i]?).any Xs
def cnt (l:List Oper) (listed:Array Bool):Nat:=(List.range l.length).countP fun i=>Xa0 l i && listed.getD i false
theorem Xdo (l:List Oper) (f:Oper→Nat→Bool):∀ (k:Nat),((l.zipIdx k).filter fun (o,j)=>f o j).length=(List.range l.length).countP fun i=>match l[i]? with | some o=>f o (k+i) | none=>false:=by
  induction l with
  | nil=>intro k;rfl
  | cons o l ih =>
    intro k
    rw [List.zipIdx_cons,List.length_cons,List.range_succ_eq_map,List.countP_cons,List.countP_map]
    have h2:=ih (k+1)
    simp only [List.filter_cons]
    have e:((List.range l.length).countP fun i=>match l[i]? with | some o=>f o (k+1+i) | none=>false) =
        (List.range l.length).countP ((fun i=>match (o::l)[i]? with | some o=>f o (k+i) | none=>false) ∘ Nat.succ):=by
      apply List.countP_congr
      intro i _
      simp [Function.comp,Nat.add_assoc,Nat.add_comm 1 i]
    rw [← e,← h2]
    simp only [List.getElem?_cons_zero,Nat.add_zero]
    split <;> simp_all
theorem XfW (i:Nat):Xaz l i=(List.range l.length).countP fun j=>Xa0 l j && Xa3 (bef l []) j i:=by
  unfold Xaz
  rw [Xdo l (fun o j=>Xs o && Xa3 (bef l []) j i) 0]
  apply List.countP_congr
  intro j _
  cases h:l[j]? <;> simp [Xa0,h]
theorem XfZ (i:Nat):XaO l i=(List.range l.length).countP fun j=>Xa0 l j && !Xa3 (bef l []) i j:=by
  unfold XaO
  rw [Xdo l (fun o j=>Xs o && !Xa3 (bef l []) i j) 0]
  apply List.countP_congr
  intro j _
  cases h:l[j]? <;> simp [Xa0,h]
theorem Xnf (i:Nat):XdG l i=(List.range l.length).countP fun j=>Xa0 l j && decide (j < i):=by
  have h:∀ (l:List Oper) (i:Nat),((l.take i).filter Xs).length=(List.range l.length).countP fun j=>Xa0 l j && decide (j < i):=by
    intro l
    induction l with
    | nil=>intro i;simp
    | cons o l ih =>
      intro i
      rw [List.length_cons,List.range_succ_eq_map,List.countP_cons,List.countP_map]
      cases i with
      | zero=>simp [List.countP_eq_zero.2]
      | succ i =>
        rw [List.take_succ_cons,List.filter_cons]
        have e:(List.range l.length).countP ((fun j=>Xa0 (o::l) j && decide (j < i+1)) ∘ Nat.succ)=(List.range l.length).countP fun j=>Xa0 l j && decide (j < i):=by
          apply List.countP_congr
          intro j _
          simp [Function.comp,Xa0]
        rw [e,← ih i]
        have e0:Xa0 (o::l) 0=Xs o:=by simp [Xa0]
        rw [e0]
        cases Xs o <;> simp
  exact h l i
theorem Xmo {listed:Array Bool} {i:Nat} (hi:i < l.length) (hs:listed.size=l.length) (hf:listed.getD i false=false) :
    cnt l (listed.setIfInBounds i true)=cnt l listed+if Xa0 l i then 1 else 0:=by
  unfold cnt
  have hget:∀ j,(listed.setIfInBounds i true).getD j false=(listed.getD j false || decide (j=i)):=fun j=>by
    by_cases e:i=j
    · subst e;simp [Array.getD_eq_getD_getElem?,hs,hi]
    · rw [getD_set_ne false e];simp [Ne.symm e]
  have h:∀ (r:List Nat),r.Nodup→i ∈ r→(r.countP fun j=>Xa0 l j && (listed.setIfInBounds i true).getD j false)=(r.countP fun j=>Xa0 l j && listed.getD j false)+if Xa0 l i then 1 else 0:=by
    intro r
    induction r with
    | nil=>intro _ h;cases h
    | cons x r ih =>
      intro hnd hmem
      rw [List.nodup_cons] at hnd
      rw [List.countP_cons,List.countP_cons]
      by_cases e:x=i
      · subst e
        have hrest:(r.countP fun j=>Xa0 l j && (listed.setIfInBounds x true).getD j false)=r.countP fun j=>Xa0 l j && listed.getD j false:=by
          apply List.countP_congr
          intro j hj
          have:j≠x:=fun e=>hnd.1 (e ▸ hj)
          rw [hget];simp [this]
        rw [hrest,hget,hf]
        cases Xa0 l x <;> simp
      · have hm:i ∈ r:=by
          rcases List.mem_cons.1 hmem with h | h
          · exact absurd h.symm e
          · exact h
        rw [ih hnd.2 hm,hget]
        simp [e]
        omega
  exact h _ List.nodup_range (List.mem_range.2 hi)
end
end Go.Th
namespace Go.Th
open Go.RowKit
theorem XbQ {α:Type} {l:List α} {f:α × Nat→Bool} (h:l.zipIdx.all f=true) {i:Nat} {o:α} (hi:l[i]?=some o):f (o,i)=true:=by
  refine List.all_eq_true.1 h (o,i) ?_
  rw [List.mem_zipIdx_iff_getElem?]
  simpa using hi
structure DrawOk (l:List Oper):Prop where
  down:∀ (i:Nat) (o:Oper),l[i]?=some o→∀ e ∈ o.after,Region.binds .any e=true→e.on < i
  slot:∀ (i j:Nat) (oi oj:Oper) (d:Nat),i≠j→l[i]?=some oi→l[j]?=some oj→oi.dst=some d→d ∈ Xbg oj→(i < j→Xa3 (bef l []) i j=true)∧(j < i→Xa3 (bef l []) j i=true)
  dst:∀ (i j:Nat) (oi oj:Oper) (d:Nat),i≠j→l[i]?=some oi→l[j]?=some oj→oi.dst=some d→oj.dst≠some d
  loud:∀ (i j:Nat) (oi oj:Oper),i < j→l[i]?=some oi→l[j]?=some oj→Xs oi=true→Xs oj=true→Xa3 (bef l []) i j=true
  guard:∀ (i j:Nat) (o:Oper) (w:Bool),l[i]?=some o→o.guard=some (j,w)→Xa3 (bef l []) j i=true∧j < i∧Xs o=false
theorem XqD {l:List Oper} (h:Xf6 l=true):DrawOk l:=by
  unfold Xf6 at h
  simp only [Bool.and_eq_true] at h
  obtain ⟨⟨h1,h2⟩,h3⟩:=h
  have pair:∀ (i j:Nat) (oi oj:Oper),i≠j→l[i]?=some oi→l[j]?=some oj →
      ((oi.dst.all fun d=>!(Xbg oj).contains d || (if i < j then Xa3 (bef l []) i j else Xa3 (bef l []) j i))=true∧(oi.dst.all fun d=>oj.dst.all fun d'=>!Nat.beq d d')=true ∧
       (!(Xs oi && Xs oj) || (if i < j then Xa3 (bef l []) i j else Xa3 (bef l []) j i))=true):=fun i j oi oj hne hi hj=>by
    have:=XbQ (XbQ h2 hi) hj
    simp only [Bool.or_eq_true,Bool.and_eq_true] at this
    rcases this with this | this
    · exact absurd (Nat.eq_of_beq_eq_true this) hne
    · simpa [Bool.or_eq_true,Bool.and_eq_true,and_assoc] using this
  refine ⟨fun i o hi e he hb=>?_,fun i j oi oj d hne hi hj hd hm=>?_,fun i j oi oj d hne hi hj hd hd'=>?_,fun i j oi oj hlt hi hj h1 h2=>?_,fun i j o w hi hg=>?_⟩
  · have:=XbQ h1 hi
    have:=List.all_eq_true.1 this e (by simpa using he)
    simp only [hb,Bool.not_true,Bool.false_or] at this
    exact Zb8
  · have:=(pair i j oi oj hne hi hj).1
    rw [hd] at this
    simp only [Option.all_some,Bool.or_eq_true,Bool.not_eq_true'] at this
    rcases this with this | this
    · have hc:(Xbg oj).contains d=true:=by simpa using hm
      rw [hc] at this;cases this
    · exact Zb9
  · have:=(pair i j oi oj hne hi hj).2.1
    rw [hd,hd'] at this
    simp at this
  · have:=(pair i j oi oj (by omega) hi hj).2.2
    rw [h1,h2] at this
    simpa [hlt] using this
  · have:=XbQ h3 hi
    rw [hg] at this
    simp only [Bool.and_eq_true,Bool.not_eq_true'] at this
    exact Zca
theorem Xbc {listed:Array Bool} {i:Nat} (h:listed.getD i true=false):listed.getD i false=false:=by
  rcases Nat.lt_or_ge i listed.size with h' | h'
  · simp [h'] at h ⊢;exact h
  · simp [Array.getElem?_eq_none h'] at h
theorem XbT (k j:Nat):(Array.replicate k false).getD j false=false:=by
  rcases Nat.lt_or_ge j k with h | h
  · simp [h]
  · simp [h]
theorem XiC:∀ (l:List Oper) (acc:List Nat),(∀ (k:Nat) (o:Oper),l[k]?=some o→∀ e ∈ o.after,Region.binds .any e=true→e.on < acc.length+k) →
    (∀ i j,i < acc.length→(acc.getD i 0).testBit j=true→j < i)→∀ i j,((bef l acc).getD i 0).testBit j=true→j < i
  | [],acc,_,h,i,j=>fun hb=>by
    rcases Nat.lt_or_ge i acc.length with hlt | hge
    · exact h i j hlt hb
    · simp only [bef,List.getD_eq_getElem?_getD,List.getElem?_eq_none hge] at hb;simp at hb
  | o::r,acc,hd,h,i,j=>by
    refine XiC r (acc++[Xfs acc o]) (fun k o' hk e he hb=>?_) (fun i j hi hb=>?_) i j
    · have:=hd (k+1) o' (by simpa using hk) e he hb
      simp;omega
    · rcases Nat.lt_or_ge i acc.length with hlt | hge
      · rw [List.getD_eq_getElem?_getD,List.getElem?_append_left hlt,← List.getD_eq_getElem?_getD] at hb
        exact h i j hlt hb
      · have e:i=acc.length:=by simp at hi;omega
        subst e
        rw [List.getD_eq_getElem?_getD,List.getElem?_append_right (Nat.le_refl _)] at hb
        simp at hb
        obtain ⟨e,he,hbind,h1⟩:=XcP hb
        have h2:=hd 0 o rfl e he hbind
        rcases h1 with h1 | h1
        · omega
        · have:=h e.on j (by simpa using h2) h1
          simp at h2;omega
theorem DrawOk.irr {l:List Oper} (ho:DrawOk l) (i j:Nat) (h:Xa3 (bef l []) j i=true):j < i :=
  XiC l [] (fun k o hk e he hb=>by have:=ho.down k o hk e he hb;simpa using this) (fun i j hi=>by simp at hi) i j h
section
variable {P:Program} {n:Nat} {l:List Oper} {vals:List PV} {Hs:Nat→Xh} {E0:Env} {m0:Mp} {w0:World} {rd:Option Nat}
structure Inv (n:Nat) (l:List Oper) (vals:List PV) (Hs:Nat→Xh) (E0:Env) (m0:Mp) (w0:World) (listed:Array Bool) (a:Act) (w:World):Prop where
  size:listed.size=l.length
  closed:XfH l.toArray listed
  tmps:a.tmps.size=n
  rel:∃ m,LeD m0 w0 m w a.defers∧R m (Hs (cnt l listed)) w∧(∀ (j:Nat) (o:Oper) (d:Nat) (p:PV),listed.getD j false=true→l[j]?=some o→o.dst=some d→vals[j]?=some p→Rep m w p (a.tmps.getD d undef)) ∧
    (∀ t p,E0.get t=some p→(∀ (j:Nat) (o:Oper),listed.getD j false=true→l[j]?=some o→o.dst≠some t)→Rep m w p (a.tmps.getD t undef))
theorem Xgb (ho:DrawOk l) {listed:Array Bool} (hs:listed.size=l.length) (h:Region.ready .any l.toArray listed=[]):∀ i,i < l.length→listed.getD i false=true:=by
  intro i
  induction i using Nat.strongRecOn with
  | _ i ih =>
    intro hi
    cases hf:listed.getD i false with
    | true=>rfl
    | false =>
      exfalso
      have hmem:i ∈ Region.ready .any l.toArray listed:=by
        rw [mem_ready]
        refine ⟨?_,l[i],by simp [hi],fun e he hb=>?_⟩
        · rw [Array.getD_eq_getD_getElem?,Array.getElem?_eq_getElem (by omega)] at hf ⊢
          simpa using hf
        · have:=ho.down i l[i] (by simp [hi]) e he hb
          exact ih e.on this (by omega)
      rw [h] at hmem;cases hmem
theorem Env.only_self (E:Env) (ts:List Nat) (t:Nat) (p:PV) (h:(E.only ts).get t=some p):t ∈ ts:=by
  induction ts with
  | nil=>simp [Env.only,Env.get] at h
  | cons x r ih =>
    simp only [Env.only] at h
    split at h
    · rw [Env.get_cons] at h
      by_cases e:x=t
      · simp [e]
      · rw [if_neg e] at h;simp [ih h]
    · simp [ih h]
theorem Xi9 (ho:DrawOk l) (hv:vals.length=l.length) (hf:∀ (i:Nat) (o:Oper) (p:PV),l[i]?=some o→vals[i]?=some p→DF P n l vals Hs E0 i o p) {Q:Exit→Act→World→Prop} {K:Act→World→Prop}
    {listed:Array Bool} {a:Act} {w:World} (hI:Inv n l vals Hs E0 m0 w0 listed a w) {i:Nat} (hi:i ∈ Region.ready .any l.toArray listed)
    (hK:∀ a' w',Inv n l vals Hs E0 m0 w0 (listed.setIfInBounds i true) a' w'→K a' w'):wpOpIn (fen rd) 0 P l.toArray Q i K a w:=by
  obtain ⟨hiu,o,hio,hdeps⟩:=mem_ready.1 hi
  have hil:l[i]?=some o:=by simpa using hio
  have hlt:i < l.length:=(List.getElem?_eq_some_iff.1 hil).1
  obtain ⟨p,hp⟩:∃ p,vals[i]?=some p:=⟨_,List.getElem?_eq_getElem (by omega)⟩
  have hif:listed.getD i false=false:=Xbc hiu
  obtain ⟨m,hle,hR,hr1,hr2⟩:=hI.rel
  have hlen:=hI.size
  have hL':∀ j,(listed.setIfInBounds i true).getD j false=true↔(listed.getD j false=true∨j=i):=fun j=>by
    by_cases e:i=j
    · subst e;simp [Array.getD_eq_getD_getElem?,hlen,hlt]
    · rw [getD_set_ne false e];simp [Ne.symm e]
  have hclosed':XfH l.toArray (listed.setIfInBounds i true):=fun k ok hk hkl e he hb=>by
    rw [hL'] at hkl ⊢
    rcases hkl with hkl | rfl
    · exact .inl (hI.closed k ok hk hkl e he hb)
    · rw [hio] at hk;cases hk
      exact .inl (hdeps e he hb)
  have hbefi:∀ j,Xa3 (bef l []) j i=true→j≠i→listed.getD j false=true:=fun j hb hne=>by
    have:=Xcy hclosed' l [] (fun k=>by simp) (fun i j hi=>by simp at hi) i j hb ((hL' i).2 (.inr rfl))
    rcases (hL' j).1 this with h | h
    · exact h
    · exact absurd h hne
  have hbefo:∀ j,Xa3 (bef l []) i j=true→listed.getD j false=false:=fun j hb=>by
    cases hj:listed.getD j false with
    | false=>rfl
    | true =>
      have:=Xcy hI.closed l [] (fun k=>by simp) (fun i j hi=>by simp at hi) j i hb hj
      rw [hif] at this;cases this
  have hEi:∀ t q,(XY o (Xac (l.take i) (vals.take i) E0)).get t=some q→Rep m w q (a.tmps.getD t undef):=fun t q ht=>by
    have hts:t ∈ Xbg o:=Env.only_self _ _ t q ht
    have ht':=Env.only_get _ _ t q ht
    rcases XbX _ _ _ t q ht' with ⟨j,oj,h1,h2,h3,h4⟩ | ⟨h1,h2⟩
    · have hji:j < i:=by simp at h1;omega
      rw [List.getElem?_take,if_pos hji] at h2 h4
      have:=(ho.slot j i oj o t (by omega) h2 hil h3 hts).1 hji
      exact Zcb
    · refine hr2 t q h1 fun j oj hj hjl hd=>?_
      rcases Nat.lt_or_ge j i with hlt2 | hge
      · exact h2 j oj (by simp;omega) (by rw [List.getElem?_take,if_pos hlt2];exact hjl) hd
      · have hne:j≠i:=fun e=>by rw [e] at hj;rw [hif] at hj;cases hj
        have:=(ho.slot j i oj o t hne hjl hil hd hts).2 (by omega)
        rw [hbefo j this] at hj;cases hj
  have hev:∀ x q,(XY o (Xac (l.take i) (vals.take i) E0)).ev x=some q→Rep m w q (a.eval x):=fun x q hx=>FR.ev (a:=a) hEi hx
  have hdf:=hf i o p hil hp
  have fin:∀ (v:Value) (m':Mp) (w':World),Le m w m' w'→R m' (Hs (cnt l (listed.setIfInBounds i true))) w'→Rep m' w' p v→K (a.put o.dst v) w':=fun v m' w' hle' hR' hrep=>by
    refine hK _ _ ⟨by simp [hlen],hclosed',by cases o.dst <;> simp [Act.put,hI.tmps],m',(hle.trans hle').put,hR',fun j oj d q hj hjl hd hq=>?_,fun t q ht hno=>?_⟩
    · rcases (hL' j).1 hj with hj | rfl
      · have hne:i≠j:=fun e=>by rw [← e,hif] at hj;cases hj
        have hrj:=(hr1 j oj d q hj hjl hd hq).mono hR.rk hle'
        cases hdo:o.dst with
        | none=>simpa [Act.put,hdo] using hrj
        | some d' =>
          have hdd:d'≠d:=fun e=>ho.dst i j o oj d hne hil hjl (by rw [hdo,e]) hd
          simpa [Act.put,hdo,Array.getD_eq_getD_getElem?,Array.getElem?_setIfInBounds_ne hdd] using hrj
      · rw [hil] at hjl;cases hjl
        rw [hp] at hq;cases hq
        have hdn:d < a.tmps.size:=by rw [hI.tmps];exact hdf.1 d hd
        simpa [Act.put,hd,Array.getD_eq_getD_getElem?,hdn] using hrep
    · have hdt:o.dst≠some t:=hno i o ((hL' i).2 (.inr rfl)) hil
      have hrt:=(hr2 t q ht (fun j oj hj hjl=>hno j oj ((hL' j).2 (.inl hj)) hjl)).mono hR.rk hle'
      cases hdo:o.dst with
      | none=>simpa [Act.put,hdo] using hrt
      | some d' =>
        have hdd:d'≠t:=fun e=>hdt (by rw [hdo,e])
        simpa [Act.put,hdo,Array.getD_eq_getD_getElem?,Array.getElem?_setIfInBounds_ne hdd] using hrt
  have hla:Xa0 l i=Xs o:=by simp [Xa0,hil]
  have hcnt:=Xmo (l:=l) hlt hlen hif
  rw [hla] at hcnt
  have hlo:Xaz l i≤cnt l listed:=by
    rw [XfW]
    refine Xfz _ _ _ fun j hj hb=>?_
    simp only [Bool.and_eq_true] at hb ⊢
    exact Zcc
  have hhi:cnt l listed≤XaO l i:=by
    rw [XfZ]
    refine Xfz _ _ _ fun j hj hb=>?_
    simp only [Bool.and_eq_true,Bool.not_eq_true'] at hb ⊢
    refine ⟨hb.1,?_⟩
    cases hbb:Xa3 (bef l []) i j with
    | false=>rfl
    | true=>rw [hbefo j hbb] at hb;cases hb.2
  unfold wpOpIn
  simp only [hio]
  cases hg:o.guard with
  | none =>
    have hw:Region.wanted o (yielded l.toArray a.tmps)=true:=by simp [Region.wanted,hg]
    rw [if_pos hw]
    have h2:=hdf.2
    rw [hg] at h2
    simp only at h2
    cases hlo':Xs o with
    | true =>
      rw [hlo'] at h2 hcnt
      simp only at h2
      have hn:cnt l listed=XdG l i:=by
        rw [Xnf]
        apply List.countP_congr
        intro j hj
        have hjl:j < l.length:=List.mem_range.1 hj
        have hjo:l[j]?=some l[j]:=List.getElem?_eq_getElem hjl
        cases hla2:Xa0 l j with
        | false=>simp
        | true =>
          have hlj:Xs l[j]=true:=by simpa [Xa0,hjo] using hla2
          simp only [Bool.true_and,decide_eq_true_eq]
          constructor
          · intro hlj2
            rcases Nat.lt_trichotomy j i with h | h | h
            · exact h
            · rw [h,hif] at hlj2;cases hlj2
            · have:=hbefo j (ho.loud i j o l[j] h hil hjo hlo' hlj)
              rw [this] at hlj2;cases hlj2
          · intro h
            exact hbefi j (ho.loud j i l[j] o h hjo hil hlj hlo') (by omega)
      refine h2 rd m w a _ _ (by rw [← hn];exact hR) hev fun v m' w' h3 h4 h5=>fin v m' w' h3 ?_ h5
      rw [hcnt,hn];simpa using h4
    | false =>
      rw [hlo'] at h2 hcnt
      simp only at h2
      refine h2 _ hlo hhi rd m w a _ _ hR hev fun v m' w' h3 h4 h5=>fin v m' w' h3 ?_ h5
      rw [hcnt];simpa using h4
  | some jw =>
    obtain ⟨j,want⟩:=jw
    have h2:=hdf.2
    rw [hg] at h2
    simp only at h2
    obtain ⟨b,oj,hvj,hjl,hjd,h3,h4⟩:=h2
    obtain ⟨g1,g2,g3⟩:=ho.guard i j o want hil hg
    have hlj:=hbefi j g1 (by omega)
    obtain ⟨dj,hdj⟩:=Option.isSome_iff_exists.1 hjd
    have hrj:=hr1 j oj dj _ hlj hjl hdj hvj
    have he:a.tmps.getD dj undef=.bool b:=XA hrj
    have hdn:dj < a.tmps.size:=by
      rcases Nat.lt_or_ge dj a.tmps.size with h | h
      · exact h
      · rw [Array.getD_eq_getD_getElem?,Array.getElem?_eq_none h] at he;simp [undef] at he
    have hy:yielded l.toArray a.tmps j=some b:=by
      have:a.tmps[dj]?=some (.bool b):=by
        rw [Array.getD_eq_getD_getElem?,Array.getElem?_eq_getElem hdn] at he
        rw [Array.getElem?_eq_getElem hdn]
        simpa using he
      simp [yielded,hjl,hdj,this]
    rw [g3] at hcnt
    by_cases e:b=want
    · have hw:Region.wanted o (yielded l.toArray a.tmps)=true:=by simp [Region.wanted,hg,hy,e]
      rw [if_pos hw]
      refine h3 e _ hlo hhi rd m w a _ _ hR hev fun v m' w' h5 h6 h7=>fin v m' w' h5 ?_ h7
      rw [hcnt];simpa using h6
    · have hw:Region.wanted o (yielded l.toArray a.tmps)=false:=by simp [Region.wanted,hg,hy,e]
      rw [hw,if_neg (by simp)]
      have hpu:=h4 e
      subst hpu
      refine ⟨fun f _=>Xcm rd f,fin undef m w (Le.refl m w) ?_ (.v _ rfl)⟩
      rw [hcnt];simpa using hR
theorem Xhg (ho:DrawOk l) (hv:vals.length=l.length) (hf:∀ (i:Nat) (o:Oper) (p:PV),l[i]?=some o→vals[i]?=some p→DF P n l vals Hs E0 i o p) {Q:Exit→Act→World→Prop}
    (hQ:∀ listed a w,Inv n l vals Hs E0 m0 w0 listed a w→(∀ i,i < l.length→listed.getD i false=true)→Q .normal a w) :
    ∀ (fuel:Nat) (listed:Array Bool) (a:Act) (w:World),Inv n l vals Hs E0 m0 w0 listed a w→((List.range l.length).countP fun i=>!listed.getD i false)≤fuel→wpAnyIn (fen rd) 0 P .any l.toArray Q fuel listed a w
  | 0,listed,a,w,hI,hc=>by
    have hall:∀ i,i < l.length→listed.getD i false=true:=fun i hi=>by
      have:=List.countP_eq_zero.1 (Nat.le_zero.1 hc) i (List.mem_range.2 hi)
      simpa using this
    refine ⟨?_,hQ listed a w hI hall⟩
    cases hr:Region.ready .any l.toArray listed with
    | nil=>rfl
    | cons i r =>
      have hm:i ∈ Region.ready .any l.toArray listed:=by rw [hr];simp
      obtain ⟨h1,o,h2,_⟩:=mem_ready.1 hm
      have hlt:i < l.length:=by simpa using (Array.getElem?_eq_some_iff.1 h2).1
      have:=hall i hlt
      rw [Xbc h1] at this;cases this
  | fuel+1,listed,a,w,hI,hc=>by
    refine ⟨fun hr=>hQ listed a w hI (Xgb ho hI.size hr),fun i hi=>?_⟩
    refine Xi9 ho hv hf hI hi fun a' w' hI'=>Xhg ho hv hf hQ fuel _ a' w' hI' ?_
    obtain ⟨h1,o,h2,_⟩:=mem_ready.1 hi
    have hlt:i < l.length:=by simpa using (Array.getElem?_eq_some_iff.1 h2).1
    have hif:=Xbc h1
    have hlen:=hI.size
    have hget:∀ j,(listed.setIfInBounds i true).getD j false=(listed.getD j false || decide (j=i)):=fun j=>by
      by_cases e:i=j
      · subst e;simp [Array.getD_eq_getD_getElem?,hlen,hlt]
      · rw [getD_set_ne false e];simp [Ne.symm e]
    have key:∀ (r:List Nat),r.Nodup→i ∈ r→(r.countP fun j=>!(listed.setIfInBounds i true).getD j false)+1=r.countP fun j=>!listed.getD j false:=by
      intro r
      induction r with
      | nil=>intro _ h;cases h
      | cons x r ih =>
        intro hnd hmem
        rw [List.nodup_cons] at hnd
        rw [List.countP_cons,List.countP_cons]
        by_cases e:x=i
        · subst e
          have hrest:(r.countP fun j=>!(listed.setIfInBounds x true).getD j false)=r.countP fun j=>!listed.getD j false:=by
            apply List.countP_congr
            intro j hj
            have:j≠x:=fun e=>hnd.1 (e ▸ hj)
            rw [hget];simp [this]
          rw [hrest,hget,hif]
          simp
        · have hm:i ∈ r:=by
            rcases List.mem_cons.1 hmem with h | h
            · exact absurd h.symm e
            · exact h
          have:=ih hnd.2 hm
          have e2:(!(listed.getD x false || decide (x=i)))=!listed.getD x false:=by simp [e]
          rw [hget,e2]
          omega
    have:=key _ List.nodup_range (List.mem_range.2 hlt)
    omega
theorem Xrf {Q:QA} {id:Nat} (hm:P.follows .mixedOrders=true) (hB:Xf6 l=true) (hv:vals.length=l.length) (hf:∀ (i:Nat) (o:Oper) (p:PV),l[i]?=some o→vals[i]?=some p→DF P n l vals Hs E0 i o p)
    (k:Q .normal (Xac l vals E0) (Hs (XdG l l.length))):wpA P n (.region id l.toArray true) Q E0 (Hs 0):=by
  rintro rd m1 w1 a w ⟨h1,h2,m,h3,h4,h5⟩
  have ho:=XqD hB
  have h4':=h4.drew
  refine wpIn_region_any hm ?_
  have hcnt0:cnt l (Array.replicate l.length false)=0:=by
    unfold cnt
    rw [List.countP_eq_zero]
    intro i _
    rw [XbT]
    simp
  refine Xhg (Hs:=Hs) (E0:=E0) (m0:=m1) (w0:=w1) ho hv hf (fun listed a' w' hI hall=>?_) _ _ a w.drew ⟨by simp,fun i o hi hl=>?_,h1,m,h3.trans h4'.2,by simpa [hcnt0] using h4'.1,fun j o d p hl=>?_,fun t p ht _=>(h5 t p ht).mono h4.rk h4'.2⟩ ?_
  · obtain ⟨m',g1,g2,g3,g4⟩:=hI.rel
    refine ⟨_,_,k,hI.tmps,h2,m',g1,?_,fun t p ht=>?_⟩
    · have:cnt l listed=XdG l l.length:=by
        rw [Xnf]
        apply List.countP_congr
        intro j hj
        have hjl:=List.mem_range.1 hj
        simp [hall j hjl,hjl]
      rw [← this];exact g2
    · rcases XbX l vals E0 t p ht with ⟨j,oj,e1,e2,e3,e4⟩ | ⟨e1,e2⟩
      · exact g3 j oj t p (hall j (by omega)) e2 e3 e4
      · exact g4 t p e1 fun j oj _ hjl=>e2 j oj (by have:=(List.getElem?_eq_some_iff.1 hjl).1;omega) hjl
  · rw [XbT] at hl;cases hl
  · rw [XbT] at hl;cases hl
  · simp only [List.size_toArray]
    refine Nat.le_trans List.countP_le_length ?_
    simp
end
end Go.Th
namespace Go.Th
open Go.RowKit
theorem HasI.mk_of {P:Program} {t:TypeId} {size bytes:Nat} {zv:Value} {z:List Value} (h:(P.info? t).map (fun i=>(i.zero,i.size,i.bytes))=some (some zv,size,bytes)) (hz:zv.cells.toList=z):HasI P t size bytes z:=by
  obtain ⟨i,h1,h2,h3,h4⟩:=info_parts h
  exact ⟨i,zv,h1,h3,h4,h2,hz⟩
section
variable {P:Program} {n:Nat} {Q:QA} {E:Env} {H:Xh} {ops:Array Oper} {rest:List Oper}
theorem XiL {K:Env→Xh→Prop} (h:K E H):wpL P n ops [] (Xe0 K Q) E H:=Xlr h
theorem Xxm {c:Operand} {x y:Code} (hc:E.ev c=some (.v (.bool false))) (h1:wpA P n y Q E H):wpA P n (.cond c x y) Q E H :=
  XiN hc (fun h=>by cases h) (fun _=>h1)
theorem XoU {c:Code} (t:Nat) (e:TypeId) (sz:Nat) (ht:E.get t=some (.v (.slice none 0 0))) (h:wpA P n c Q ((t,.sl H.length 0 0 sz)::E) (H++[some ⟨[],e,true⟩])):wpA P n c Q E H:=by
  rintro rd m0 w0 a w ⟨h1,h2,m,h3,h4,h5⟩
  refine h rd m0 w0 a w ⟨h1,h2,m,h3,h4.ghost _,fun t' p ht'=>?_⟩
  rw [Env.get_cons] at ht'
  by_cases e':t=t'
  · subst e'
    rw [if_pos rfl] at ht';cases ht'
    rw [XA (h5 t _ ht)]
    exact .sl0 none
  · rw [if_neg e'] at ht'
    exact h5 t' p ht'
end
def XtA (P:Program) (n:Nat) (l:List Oper) (vals:List PV) (Hs:Nat→Xh):Nat→List Oper→List PV→Env→Prop
  | i,o::os,p::ps,E =>
    ((∀ d,o.dst=some d→d < n) ∧
      match o.guard with
      | none=>match Xs o with
        | true=>OpK P o (XY o E) (Hs (XdG l i)) p (Hs (XdG l i+1))
        | false=>∀ k,Xaz l i≤k→k≤XaO l i→OpK P o (XY o E) (Hs k) p (Hs k)
      | some (j,want)=>∃ b oj,vals[j]?=some (.v (.bool b))∧l[j]?=some oj∧oj.dst.isSome=true ∧
          (b=want→∀ k,Xaz l i≤k→k≤XaO l i→OpK P o (XY o E) (Hs k) p (Hs k))∧(b≠want→p=.v undef)) ∧
    XtA P n l vals Hs (i+1) os ps (match o.dst with | some d=>(d,p)::E | none=>E)
  | _,[],[],_=>True
  | _,_,_,_=>False
theorem Xcd:∀ (l:List Oper) (vals:List PV) (o:Oper) (p:PV) (E:Env),l.length=vals.length→Xac (l++[o]) (vals++[p]) E=(match o.dst with | some d=>(d,p)::Xac l vals E | none=>Xac l vals E)
  | [],[],o,p,E,_=>by cases h:o.dst <;> simp [Xac,h]
  | [],_::_,_,_,_,h=>by simp at h
  | _::_,[],_,_,_,h=>by simp at h
  | x::l,y::vals,o,p,E,h=>by
    simp only [List.cons_append,Xac]
    exact Xcd l vals o p _ (by simpa using h)
theorem XtA.facts {P:Program} {n:Nat} {l:List Oper} {vals:List PV} {Hs:Nat→Xh} {E0:Env} (hl:vals.length=l.length):∀ (i:Nat) (os:List Oper) (ps:List PV),l.drop i=os→vals.drop i=ps →
    XtA P n l vals Hs i os ps (Xac (l.take i) (vals.take i) E0)→∀ (j:Nat) (o:Oper) (p:PV),i≤j→l[j]?=some o→vals[j]?=some p→DF P n l vals Hs E0 j o p
  | i,[],ps,h1,_,_,j,o,p,hij,hj,_=>by
    have h2:=congrArg List.length h1
    simp at h2
    have:=(List.getElem?_eq_some_iff.1 hj).1
    omega
  | i,o'::os,[],h1,h2,h,j,o,p,hij,hj,hp=>by simp [XtA] at h
  | i,o'::os,p'::ps,h1,h2,h,j,o,p,hij,hj,hp=>by
    obtain ⟨ha,hb⟩:=h
    have e1:l[i]?=some o':=by have:=congrArg (·[0]?) h1;simpa using this
    have e2:vals[i]?=some p':=by have:=congrArg (·[0]?) h2;simpa using this
    by_cases e:i=j
    · subst e
      rw [e1] at hj;cases hj
      rw [e2] at hp;cases hp
      exact ha
    · have hi:i < l.length:=(List.getElem?_eq_some_iff.1 e1).1
      have t1:l.take (i+1)=l.take i++[o']:=by
        rw [List.take_add_one,e1];rfl
      have t2:vals.take (i+1)=vals.take i++[p']:=by
        rw [List.take_add_one,e2];rfl
      refine XtA.facts hl (i+1) os ps ?_ ?_ ?_ j o p (by omega) hj hp
      · have:=congrArg List.tail h1;simpa using this
      · have:=congrArg List.tail h2;simpa using this
      · rw [t1,t2,Xcd _ _ _ _ _ (by simp;omega)]
        exact hb
theorem XoW {P:Program} {n:Nat} {l:List Oper} {Hs:Nat→Xh} {E0:Env} {Q:QA} {id:Nat} (vals:List PV) (hm:P.follows .mixedOrders=true) (hB:Xf6 l=true) (hv:vals.length=l.length)
    (h:XtA P n l vals Hs 0 l vals E0) (k:Q .normal (Xac l vals E0) (Hs (XdG l l.length))):wpA P n (.region id l.toArray true) Q E0 (Hs 0) :=
  Xrf hm hB hv (fun i o p hi hp=>XtA.facts hv 0 l vals rfl rfl (by simpa [Xac] using h) i o p (Nat.zero_le _) hi hp) k
def DX (P:Program) (n:Nat) (l:List Oper) (Hs:Nat→Xh):Nat→List Oper→List PV→Env→(Env→Prop)→Prop
  | _,[],_,E,K=>K E
  | i,o::os,acc,E,K=>∃ p,((∀ d,o.dst=some d→d < n) ∧
      match o.guard with
      | none=>match Xs o with
        | true=>OpK P o (XY o E) (Hs (XdG l i)) p (Hs (XdG l i+1))
        | false=>∀ k,Xaz l i≤k→k≤XaO l i→OpK P o (XY o E) (Hs k) p (Hs k)
      | some (j,want)=>∃ b oj,acc[j]?=some (.v (.bool b))∧l[j]?=some oj∧oj.dst.isSome=true ∧
          (b=want→∀ k,Xaz l i≤k→k≤XaO l i→OpK P o (XY o E) (Hs k) p (Hs k))∧(b≠want→p=.v undef)) ∧
    DX P n l Hs (i+1) os (acc++[p]) (match o.dst with | some d=>(d,p)::E | none=>E) K
theorem DX.all {P:Program} {n:Nat} {l:List Oper} {Hs:Nat→Xh} {K:Env→Prop}:∀ (os:List Oper) (i:Nat) (acc:List PV) (E:Env),DX P n l Hs i os acc E K →
    ∃ ps,ps.length=os.length∧XtA P n l (acc++ps) Hs i os ps E∧K (Xac os ps E)
  | [],i,acc,E,h=>⟨[],rfl,trivial,h⟩
  | o::os,i,acc,E,⟨p,⟨h1,h2⟩,h3⟩=>by
    obtain ⟨ps,hl,hd,hk⟩:=DX.all os (i+1) (acc++[p]) _ h3
    refine ⟨p::ps,by simp [hl],⟨⟨h1,?_⟩,?_⟩,hk⟩
    · cases hg:o.guard with
      | none=>rw [hg] at h2;exact h2
      | some jw =>
        rw [hg] at h2
        obtain ⟨b,oj,e1,e2⟩:=h2
        refine ⟨b,oj,?_,e2⟩
        rw [List.getElem?_append_left (List.getElem?_eq_some_iff.1 e1).1]
        exact e1
    · rw [List.append_assoc] at hd
      exact hd
theorem XsZ {P:Program} {n:Nat} {l:List Oper} {Hs:Nat→Xh} {E0:Env} {Q:QA} {id:Nat} (hm:P.follows .mixedOrders=true) (hB:Xf6 l=true)
    (h:DX P n l Hs 0 l [] E0 (fun E=>Q .normal E (Hs (XdG l l.length)))):wpA P n (.region id l.toArray true) Q E0 (Hs 0):=by
  obtain ⟨ps,hl,hd,hk⟩:=DX.all l 0 [] E0 h
  exact XoW ps hm hB hl hd hk
theorem Xxn {P:Program} {n:Nat} {l:List Oper} {H:Xh} {E0:Env} {Q:QA} {id:Nat} (hm:P.follows .mixedOrders=true) (hB:Xf6 l=true)
    (h:DX P n l (fun _=>H) 0 l [] E0 (fun E=>Q .normal E H)):wpA P n (.region id l.toArray true) Q E0 H :=
  XsZ (Hs:=fun _=>H) hm hB h
section
variable {P:Program} {n:Nat} {l:List Oper} {acc:List PV} {Hs:Nat→Xh} {i:Nat} {o:Oper} {os:List Oper} {p:PV} {E:Env} {d:Nat} {K:Env→Prop}
end
section
variable {P:Program} {fn:Func} {Q:PV→Prop} {QH:PV→Xh→Prop} {E:Env} {H:Xh}
theorem XlE {e:Exit} (hr:fn.results=#[]) (he:e=.normal∨e=.ret) (hq:Q (.tup [])):XlF P fn Q e E H :=
  ⟨he,[],.tup [],by rw [hr];trivial,.refl _,Xi.tup Xp,hq⟩
theorem XJ {t:Tmp} {p q:PV} (hr:fn.results=#[.tmp t]) (h1:E.get t=some p) (hc:Conv H p q) (ht:Xi q) (hq:Q q):XlF P fn Q .ret E H :=
  ⟨.inr rfl,[p],q,by rw [hr];exact ⟨h1,trivial⟩,hc,ht,hq⟩
theorem Xg0 {t u:Tmp} {p q p' q':PV} (hr:fn.results=#[.tmp t,.tmp u]) (h1:E.get t=some p) (h2:E.get u=some q) (hc:Conv H p p') (hc2:Conv H q q') (ht:Xi p') (ht2:Xi q') (hq:Q (.tup [p',q'])):XlF P fn Q .ret E H :=
  ⟨.inr rfl,[p,q],.tup [p',q'],by rw [hr];exact ⟨h1,h2,trivial⟩,.tup rfl (fun j c d hj hd=>by
    match j with
    | 0=>simp at hj hd;subst hj;subst hd;exact hc
    | 1=>simp at hj hd;subst hj;subst hd;exact hc2
    | j+2=>simp at hj),Xi.tup (Xa ht (Xa ht2 Xp)),hq⟩
theorem Xpz {t u v:Tmp} {p q r p' q' r':PV} (hr:fn.results=#[.tmp t,.tmp u,.tmp v]) (h1:E.get t=some p) (h2:E.get u=some q) (h3:E.get v=some r) (hc:Conv H p p') (hc2:Conv H q q') (hc3:Conv H r r') (ht:Xi p') (ht2:Xi q') (ht3:Xi r') (hq:Q (.tup [p',q',r'])):XlF P fn Q .ret E H :=
  ⟨.inr rfl,[p,q,r],.tup [p',q',r'],by rw [hr];exact ⟨h1,h2,h3,trivial⟩,.tup rfl (fun j c d hj hd=>by
    match j with
    | 0=>simp at hj hd;subst hj;subst hd;exact hc
    | 1=>simp at hj hd;subst hj;subst hd;exact hc2
    | 2=>simp at hj hd;subst hj;subst hd;exact hc3
    | j+3=>simp at hj),Xi.tup (Xa ht (Xa ht2 (Xa ht3 Xp))),hq⟩
theorem XcN {a:Tmp} {ty:TypeId} {d:TypeDesc} {size bytes:Nat} {z:List Value} {p q r:PV} [hu:HasU P ty d] [hi:HasI P ty size bytes z] (hr:fn.results=#[.cell a ty]) (h1:E.get a=some r) (hl:Xd2 d size H r=some p) (hc:Conv H p q) (ht:Xi q) (hq:Q q):XlF P fn Q .ret E H :=
  ⟨.inr rfl,[p],q,by rw [hr];exact ⟨Xlc h1 hl,trivial⟩,hc,ht,hq⟩
theorem Xfr {a u:Tmp} {ty:TypeId} {d:TypeDesc} {size bytes:Nat} {z:List Value} {p q p' q' r:PV} [hu:HasU P ty d] [hi:HasI P ty size bytes z] (hr:fn.results=#[.cell a ty,.tmp u]) (h1:E.get a=some r) (hl:Xd2 d size H r=some p) (h2:E.get u=some q)
    (hc:Conv H p p') (hc2:Conv H q q') (ht:Xi p') (ht2:Xi q') (hq:Q (.tup [p',q'])):XlF P fn Q .ret E H :=
  ⟨.inr rfl,[p,q],.tup [p',q'],by rw [hr];exact ⟨Xlc h1 hl,h2,trivial⟩,.tup rfl (fun j c d hj hd=>by
    match j with
    | 0=>simp at hj hd;subst hj;subst hd;exact hc
    | 1=>simp at hj hd;subst hj;subst hd;exact hc2
    | j+2=>simp at hj),Xi.tup (Xa ht (Xa ht2 Xp)),hq⟩
theorem XcO {e:Exit} (hr:fn.results=#[]) (he:e=.normal∨e=.ret) (hq:QH (.tup []) H):XrN P fn QH e E H :=
  ⟨he,[],by rw [hr];trivial,hq⟩
theorem XG {t:Tmp} {p:PV} (hr:fn.results=#[.tmp t]) (h1:E.get t=some p) (hq:QH p H):XrN P fn QH .ret E H :=
  ⟨.inr rfl,[p],by rw [hr];exact ⟨h1,trivial⟩,hq⟩
theorem XuE {t u:Tmp} {p q:PV} (hr:fn.results=#[.tmp t,.tmp u]) (h1:E.get t=some p) (h2:E.get u=some q) (hq:QH (.tup [p,q]) H):XrN P fn QH .ret E H :=
  ⟨.inr rfl,[p,q],by rw [hr];exact ⟨h1,h2,trivial⟩,hq⟩
end
section
variable {P:Program} {E:Env} {H:Xh} {o:Oper} {t e:TypeId} {sz bytes:Nat} {z:List Value}
theorem Xf [hu:HasU P t (.slice e)] [hi:HasI P e sz bytes z] {x y:Operand} {k:IntKind} {i:Int} {cells ec:List PV} {len:Nat} (ho:o.op=.indexAddr t x y) (hx:E.ev x=some (.tr cells len sz)) (hy:E.ev y=some (.v (.int k i)))
    (h:0≤i∧i < len) (hc:Xai sz (cells.drop (i.toNat * sz))=some ec):OpV P o E H (.ept ec 0):=fun m w ρ hR hρ=>by
  obtain ⟨v,hrun,hr⟩:=Xa4 (P:=P) (H:=H) ho hx hy rfl rfl h m w ρ hR hρ
  refine ⟨v,hrun,?_⟩
  obtain ⟨h1,rfl⟩:=(Xaq _ _ _).1 hc
  cases hr with
  | @ept _ _ b o' f a1 a2 a3 =>
    refine .ept (b:=b) (o:=o'+i.toNat * sz) (off:=0) (fun j=>f (i.toNat * sz+j)) a1 (fun j c hj=>?_) (fun j c hj=>?_)
    · rw [List.getElem?_take] at hj
      split at hj
      · rw [List.getElem?_drop] at hj
        rw [Nat.add_assoc];exact a2 _ c hj
      · cases hj
    · rw [List.getElem?_take] at hj
      split at hj
      · rw [List.getElem?_drop] at hj
        exact a3 _ c hj
      · cases hj
theorem Xu {α:Type} {enc:α→List PV} {sz:Nat} (henc:∀ x,(enc x).length=sz):∀ (l:List α) (i:Nat) (x:α),l[i]?=some x→Xai sz ((l.flatMap enc).drop (i * sz))=some (enc x)
  | [],i,x,h=>by simp at h
  | a::l,0,x,h=>by
    simp at h;subst h
    rw [Xaq]
    simp [List.flatMap_cons,henc]
  | a::l,i+1,x,h=>by
    rw [List.flatMap_cons,show (i+1) * sz=(enc a).length+i * sz from by rw [henc,Nat.add_mul];omega,List.drop_append]
    rw [List.drop_eq_nil_of_le (by omega),List.nil_append,Nat.add_sub_cancel_left]
    exact Xu henc l i x (by simpa using h)
end
end Go.Th
namespace Go.Th
open Go.RowKit
section
variable {P:Program} {n:Nat} {Q:QA} {E:Env} {H:Xh} {ops:Array Oper} {rest:List Oper} {K:Env→Xh→Prop} {i id:Nat}
theorem Xlp (h:Q (.exit i) E H):Xe0 K Q (.exit i) E H:=h
theorem Xh3 (h:Q .ret E H):Xe0 K Q .ret E H:=h
theorem XiI (h:K E H):Xe0 K Q .normal E H:=h
theorem XgN (h:Q .ret E H):XdJ id Q .ret E H:=h
theorem XhR (h:Q .normal E H):XdJ id Q .normal E H:=h
theorem XjS (h:Q .normal E H):XdJ id Q (.exit id) E H:=by
  simp only [XdJ,if_true];exact h
theorem Xfj {c:Operand} {x y:Code} {t:Bool} (hc:E.ev c=some (.v (.bool t))) (ht:t=true) (h:wpA P n x Q E H):wpA P n (.cond c x y) Q E H :=
  XiN hc (fun _=>h) (fun e=>by rw [ht] at e;cases e)
theorem Xge {c:Operand} {x y:Code} {t:Bool} (hc:E.ev c=some (.v (.bool t))) (ht:t=false) (h:wpA P n y Q E H):wpA P n (.cond c x y) Q E H :=
  XiN hc (fun e=>by rw [ht] at e;cases e) (fun _=>h)
theorem XmS {o og:Oper} {j dj d:Nat} {want b:Bool} (hg:o.guard=some (j,want)) (hj:ops[j]?=some og) (hdj:og.dst=some dj) (hb:E.get dj=some (.v (.bool b))) (hd:o.dst=some d) (hn:d < n) (e:b=want)
    (h1:wpL P n ops ({ o with guard:=none }::rest) Q E H):wpL P n ops (o::rest) Q E H:=XtG hg hj hdj hb hd hn (fun _=>h1) (fun e'=>absurd e e')
theorem XoS {o og:Oper} {j dj d:Nat} {want b:Bool} (hg:o.guard=some (j,want)) (hj:ops[j]?=some og) (hdj:og.dst=some dj) (hb:E.get dj=some (.v (.bool b))) (hd:o.dst=some d) (hn:d < n) (e:b=!want)
    (h1:wpL P n ops rest Q ((d,.v undef)::E) H):wpL P n ops (o::rest) Q E H:=XtG hg hj hdj hb hd hn (fun e'=>by rw [e'] at e;cases want <;> cases e) (fun _=>h1)
theorem At.freeze {rd:Option Nat} {m0:Mp} {w0:World} {a:Act} {w:World} {t id off len sz:Nat} {B:Blk} {cs:List PV} (h:At rd m0 w0 n E H a w) (ht:E.get t=some (.sl id off len sz)) (hB:H[id]?=some (some B)) (hc:Xai (len * sz) (B.cells.drop off)=some cs) :
    At rd m0 w0 n ((t,.tr cs len sz)::E) (H.set id none) a w:=by
  obtain ⟨h1,h2,m,h3,h4,h5⟩:=h
  obtain ⟨t1,rfl⟩:=(Xaq _ _ _).1 hc
  have hcl:((B.cells.drop off).take (len * sz)).length=len * sz:=by simp only [List.length_take];omega
  have hr:=h5 t _ ht
  generalize hv:a.tmps.getD t undef=v at hr
  cases hr with
  | @sl _ _ _ _ b lim cap hm a1 a2 a3 =>
    obtain ⟨hd0,⟨cur,c1,c2,c3,c4⟩,hk1,hk2⟩:=h4.blk id B b 0 lim hB hm
    have hle:Le m w { blk:=m.blk,ro:=fun k=>m.ro k∨k=b,keep:=fun k=>m.keep k∨k=b,top:=m.top } w :=
      ⟨fun _ _ h=>h,fun _ h=>.inl h,fun _ h=>.inl h,fun _ _=>rfl,Nat.le_refl _,rfl,rfl,rfl,fun k hk=>by
        rcases hk with hk | rfl
        · exact .inl hk
        · cases ho:B.own with
          | true=>exact .inr (hk1 ho)
          | false=>exact .inl (hk2 ho),rfl,fun _ _=>rfl⟩
    have hR:R { blk:=m.blk,ro:=fun k=>m.ro k∨k=b,keep:=fun k=>m.keep k∨k=b,top:=m.top } (H.set id none) w:=by
      refine ⟨fun k hk=>?_,fun k hk=>?_,fun i x hx=>by simpa using h4.dom i x hx,fun i C bi di li hi hmi=>?_,fun i j C D bi di li bj dj lj hne hi hj=>?_,by simpa using h4.top⟩
      · rcases hk with hk | hk
        · exact .inl (h4.rk k hk)
        · exact .inr hk
      · rcases hk with hk | rfl
        · exact h4.kl k hk
        · exact h4.lt hB hm
      · rcases XH hi with ⟨_,e⟩ | ⟨n1,e⟩
        · cases e
        · obtain ⟨g0,⟨cur',g1,g2,g3,g4⟩,g5,g6⟩:=h4.blk i C bi di li e hmi
          refine ⟨g0,⟨cur',g1,g2,g3,fun j c hj=>let ⟨u,u1,u2,u3⟩:=g4 j c hj;⟨u,u1,u2.mono h4.rk hle,u3⟩⟩,fun hoC hk=>?_,fun hoC=>.inl (g6 hoC)⟩
          rcases hk with hk | rfl
          · exact g5 hoC hk
          · cases ho:B.own with
            | true=>exact h4.inj i id C B _ _ _ _ _ _ n1 e hB hoC ho hmi hm rfl
            | false=>exact g5 hoC (h4.rk _ (hk2 ho))
      · rcases XH hi with ⟨_,e⟩ | ⟨n1,ei⟩
        · cases e
        · rcases XH hj with ⟨_,e⟩ | ⟨n2,ej⟩
          · cases e
          · exact h4.inj i j C D bi di li bj dj lj hne ei ej
    refine ⟨h1,h2,_,h3.trans hle,hR,fun t' p ht'=>?_⟩
    rw [Env.get_cons] at ht'
    by_cases e:t=t'
    · subst e
      rw [if_pos rfl] at ht';cases ht'
      rw [hv]
      refine .tr (b:=b) (o:=0+off) (fun j=>cur.getD (0+off+j) undef) (.inr rfl) hcl a1 a2 (fun j q hj=>?_) (fun j q hj=>?_)
      all_goals
        have hlt:j < ((B.cells.drop off).take (len * sz)).length:=(List.getElem?_eq_some_iff.1 hj).1
        have hj2:=hj
        rw [List.getElem?_take,if_pos (by omega),List.getElem?_drop] at hj2
        obtain ⟨u,u1,u2,_⟩:=c4 _ _ hj2
        have u1':cur[0+off+j]?=some u:=by rw [Nat.add_assoc];exact u1
        have hg:cur.getD (0+off+j) undef=u:=by rw [Array.getD_eq_getD_getElem?,u1'];rfl
      · rw [cell_of_row w b _ cur B.elem.tid (0,0) c1,u1',hg]
      · simp only [hg]
        exact u2.mono h4.rk hle
    · rw [if_neg e] at ht'
      exact (h5 t' p ht').mono h4.rk hle
  | sl0 ad =>
    refine ⟨h1,h2,m,h3,h4.kill id,fun t' p ht'=>?_⟩
    rw [Env.get_cons] at ht'
    by_cases e:t=t'
    · subst e
      rw [if_pos rfl] at ht';cases ht'
      rw [hv]
      have:(B.cells.drop off).take (0 * sz)=[]:=by simp
      rw [this]
      cases ad with
      | some ad=>exact .tr0 ad (by simp [maxLen])
      | none=>exact .trn
    · rw [if_neg e] at ht'
      exact h5 t' p ht'
end
def Xd7 (sz:Nat) (p:PV) (l h:Nat):Option PV :=
  match p with
  | .sl id off _ sz'=>match Nat.beq sz' sz with
    | true=>some (.sl id (off+l * sz) (h - l) sz)
    | false=>none
  | .tr cells _ sz'=>match Nat.beq sz' sz with
    | true=>some (.tr ((cells.drop (l * sz)).take ((h - l) * sz)) (h - l) sz)
    | false=>none
  | _=>none
def optInt (E:Env) (dflt:Nat):Option Operand→Option Nat
  | none=>some dflt
  | some x=>match E.ev x with
    | some (.v (.int _ i))=>match i with
      | .ofNat k=>some k
      | .negSucc _=>none
    | _=>none
section
variable {P:Program} {E:Env} {H:Xh} {o:Oper} {t e:TypeId} {sz bytes:Nat} {z:List Value}
theorem XR {P:Program} {w:World} (k:IntKind) (i y:Nat) (c:BoundsCode) (h:i≤y):(Instr.sliceBound (.int k (i:Int)) y c).run P w=.ok i w:=by
  have h1:(0:Int)≤(i:Int)∧(i:Int)≤(y:Int):=⟨by omega,by omega⟩
  simp [Instr.sliceBound,asIntOf,h1]
theorem Xlf [hu:HasU P t (.slice e)] [hi:HasI P e sz bytes z] {x:Operand} {lo hi':Option Operand} {p q:PV} {len l h:Nat} {kl kh:IntKind} (ho:o.op=.slice t x lo hi' none) (hx:E.ev x=some p) (hlen:Xb3 p=some len)
    (hlo:match lo with | none=>l=0 | some y=>E.ev y=some (.v (.int kl (l:Int)))) (hhi:match hi' with | none=>h=len | some y=>E.ev y=some (.v (.int kh (h:Int)))) (hlh:l≤h∧h≤len)
    (hq:Xd7 sz p l h=some q):OpV P o E H q:=fun m w ρ hR hρ=>by
  obtain ⟨inf,zv,h3,h4,_⟩:=hi.i
  subst h4
  have hp:=hρ x p hx
  have key:∀ (a:Option Addr) (c:Nat),len≤c→ρ x=.slice a len c→(execOp ρ o).run P w=.ok (.value (.slice (if c=l then a else a.map (·.add (l * inf.size))) (h - l) (c - l))) w:=fun a c hc hv=>by
    have hs:∀ f:Value→Sem Nat,True:=fun _=>trivial
    have hb:(Instr.sliceBounds true len c (lo.map ρ) (hi'.map ρ) none).run P w=.ok (l,h,c) w:=by
      unfold Instr.sliceBounds
      cases lo with
      | none =>
        simp only at hlo
        subst hlo
        cases hi' with
        | none=>simp only at hhi;subst hhi;simp
        | some y =>
          simp only at hhi
          have:=XA (hρ y _ hhi)
          simp [this,XR kh h c _ (by omega)]
      | some y =>
        simp only at hlo
        have h1:=XA (hρ y _ hlo)
        cases hi' with
        | none=>simp only at hhi;subst hhi;simp [h1,XR kl l h _ (by omega)]
        | some y' =>
          simp only at hhi
          have h2:=XA (hρ y' _ hhi)
          simp [h1,h2,XR kl l h _ (by omega),XR kh h c _ (by omega)]
    simp only [execOp,ho,Option.map_none,Instr.sliceAt,Sem.run_bind,run_underlying hu.u,Result.andThen_ok,hv,Instr.slice,hb,Xaj h3,Sem.run_pure]
  generalize hv:ρ x=v at hp
  cases hp with
  | @sl id off len' sz' b lim cap hm a1 a2 a3 =>
    simp only [Xb3] at hlen;cases hlen
    simp only [Xd7] at hq
    split at hq
    · rename_i hb
      have hb:=Nat.eq_of_beq_eq_true hb
      subst hb
      cases hq
      refine ⟨_,key _ _ a1 hv,?_⟩
      by_cases hc:cap=l
      · rw [if_pos hc]
        have:h - l=0:=by omega
        rw [this,show cap - l=0 by omega]
        exact .sl0 _
      · rw [if_neg hc]
        simp only [Option.map_some,Addr.add_mk]
        rw [Nat.add_assoc]
        refine .sl (lim:=lim) hm (by omega) (by omega) ?_
        have:l * inf.size+(cap - l) * inf.size=cap * inf.size:=by rw [← Nat.add_mul];congr 1;omega
        omega
    · cases hq
  | sl0 a =>
    simp only [Xb3] at hlen;cases hlen
    simp only [Xd7] at hq
    split at hq
    · cases hq
      have hl0:l=0:=by omega
      have hh0:h=0:=by omega
      subst hl0;subst hh0
      refine ⟨_,key _ _ (Nat.le_refl _) hv,?_⟩
      simp only [if_true,Nat.sub_zero]
      exact .sl0 _
    · cases hq
  | @tr cells len' sz' b oo cap f hr hl a1 a2 hc hh =>
    simp only [Xb3] at hlen;cases hlen
    simp only [Xd7] at hq
    split at hq
    · rename_i hb
      have hb:=Nat.eq_of_beq_eq_true hb
      subst hb
      cases hq
      refine ⟨_,key _ _ a1 hv,?_⟩
      by_cases hcl:cap=l
      · rw [if_pos hcl]
        have:h - l=0:=by omega
        rw [this,show cap - l=0 by omega]
        simp only [Nat.zero_mul,List.take_zero]
        exact .tr0 _ (by simp [maxLen])
      · rw [if_neg hcl]
        simp only [Option.map_some,Addr.add_mk]
        have hm:l * inf.size+(h - l) * inf.size=h * inf.size:=by rw [← Nat.add_mul];congr 1;omega
        have hm2:h * inf.size≤len * inf.size:=Nat.mul_le_mul_right _ hlh.2
        refine .tr (b:=b) (o:=oo+l * inf.size) (fun j=>f (l * inf.size+j)) hr ?_ (by omega) (by omega) (fun j q hj=>?_) (fun j q hj=>?_)
        · simp only [List.length_take,List.length_drop,hl];omega
        · rw [List.getElem?_take] at hj
          split at hj
          · rw [List.getElem?_drop] at hj
            rw [Nat.add_assoc];exact hc _ q hj
          · cases hj
        · rw [List.getElem?_take] at hj
          split at hj
          · rw [List.getElem?_drop] at hj
            exact hh _ q hj
          · cases hj
    · cases hq
  | tr0 a a2 =>
    simp only [Xb3] at hlen;cases hlen
    simp only [Xd7] at hq
    split at hq
    · cases hq
      have hl0:l=0:=by omega
      have hh0:h=0:=by omega
      subst hl0;subst hh0
      refine ⟨_,key _ _ (by omega) hv,?_⟩
      simp only [Nat.sub_zero,List.drop_nil,List.take_nil]
      split
      · exact .tr0 _ a2
      · exact .tr0 _ a2
    · cases hq
  | trn =>
    simp only [Xb3] at hlen;cases hlen
    simp only [Xd7] at hq
    split at hq
    · cases hq
      have hl0:l=0:=by omega
      have hh0:h=0:=by omega
      subst hl0;subst hh0
      refine ⟨_,key _ _ (by omega) hv,?_⟩
      simp only [if_true,Nat.sub_zero,List.drop_nil,List.take_nil]
      exact .trn
    · cases hq
  | _=>simp [Xd7] at hq
end
end Go.Th
namespace Go.Th
open Go.RowKit
def Sub (E' E:Env):Prop:=∀ t p,E'.get t=some p→E.get t=some p
theorem Sub.nil (E:Env):Sub [] E:=fun t p h=>by simp [Env.get] at h
theorem Sub.cons {E' E:Env} {t:Nat} {p:PV} (h:E.get t=some p) (k:Sub E' E):Sub ((t,p)::E') E:=fun t' q hq=>by
  rw [Env.get_cons] at hq
  by_cases e:t=t'
  · subst e;rw [if_pos rfl] at hq;cases hq;exact h
  · rw [if_neg e] at hq;exact k t' q hq
section
variable {P:Program} {n:Nat} {Q:QA} {E:Env} {H:Xh} {ops:Array Oper} {rest:List Oper}
theorem XA3 {c:Code} (E':Env) (hs:Sub E' E) (h:wpA P n c Q E' H):wpA P n c Q E H:=Xev hs h
theorem Xg {S:Type} {c:Code} (En:S→Env) (Hp:S→Xh→Prop) (μ:S→Nat) (s0:S) (hE:Sub (En s0) E) (hH:Hp s0 H)
    (round:∀ s G,Hp s G→wpA P n c (Xe0 (fun E' G'=>∃ s',μ s' < μ s∧Sub (En s') E'∧Hp s' G') Q) (En s) G):wpA P n (.loop c) Q E H:=by
  refine Xre (fun k E G=>∃ s,μ s=k∧Sub (En s) E∧Hp s G) (k:=μ s0) ⟨s0,rfl,hE,hH⟩ ?_
  rintro k E1 G ⟨s,rfl,hs,hg⟩
  refine Xev hs (XmW (round s G hg) ?_)
  intro e E2 G2 hq
  cases e with
  | normal =>
    obtain ⟨s',h1,h2,h3⟩:=hq
    exact ⟨μ s',h1,s',rfl,h2,h3⟩
  | exit id=>exact hq
  | goto l=>exact hq
  | ret=>exact hq
  | panic c=>exact hq
  | outgrown=>exact hq
theorem XbR {x y:Code} {S:Type} (En:S→Env) (Hp:S→Xh→Prop) (h:wpA P n x (Xe0 (fun E' H'=>∃ s,Sub (En s) E'∧Hp s H') Q) E H) (k:∀ s H',Hp s H'→wpA P n y Q (En s) H'):wpA P n (.seq x y) Q E H :=
  Xls (fun E' H'=>∃ s,Sub (En s) E'∧Hp s H') h fun _ H' ⟨s,h1,h2⟩=>Xev h1 (k s H' h2)
end
def Xw1 (H H':Xh):Prop:=H.length≤H'.length∧∀ i,i < H.length→H'[i]?=H[i]?
theorem Xw1.app (H t:Xh):Xw1 H (H++t):=⟨by simp,fun i hi=>List.getElem?_append_left hi⟩
theorem Xw1.get {H H':Xh} (h:Xw1 H H') {i:Nat} {b:Option Blk} (hi:H[i]?=some b):H'[i]?=some b:=by
  have:=(List.getElem?_eq_some_iff.1 hi).1
  rw [h.2 i this];exact hi
theorem Xp5 {H:Xh} {t:Xh} {i:Nat} {b:Option Blk} (h:H[i]?=some b):(H++t)[i]?=some b:=(Xw1.app H t).get h
theorem Xp4 (H:Xh) (b:Option Blk):(H++[b])[H.length]?=some b:=by simp
theorem get_set {H:Xh} {i:Nat} {b c:Option Blk} (h:H[i]?=some b):(H.set i c)[i]?=some c:=by
  have:=(List.getElem?_eq_some_iff.1 h).1
  simp [this]
theorem get_set_ne {H:Xh} {i j:Nat} {b c:Option Blk} (h:H[i]?=some b) (hne:j≠i):(H.set j c)[i]?=some b:=by
  rw [List.getElem?_set_ne hne];exact h
theorem XpN {H:Xh} {i:Nat} {b:Option Blk} (h:H[i]?=some b):i < H.length:=(List.getElem?_eq_some_iff.1 h).1
def XfV (d:TypeDesc) (size:Nat) (cells:List PV) (off:Nat):Option PV :=
  match Xdl d with
  | true=>match Xai size (cells.drop off) with
    | some cs=>some (.agg cs)
    | none=>none
  | false=>match Xai 1 (cells.drop off) with
    | some [c]=>some c
    | _=>none
section
variable {P:Program} {E:Env} {H:Xh} {o:Oper} {t:TypeId} {d:TypeDesc} {size bytes:Nat} {z:List Value} {id off:Nat} {B:Blk}
theorem Xm [hu:HasU P t d] [hi:HasI P t size bytes z] {x:Operand} {q:PV} (ho:o.op=.load t x) (hx:E.ev x=some (.ptr id off)) (hB:H[id]?=some (some B)) (hl:XfV d size B.cells off=some q):OpV P o E H q :=
  XaS ho hx (by
    have e:Xd2 d size H (.ptr id off)=XfV d size B.cells off:=by simp only [Xd2,XdC,hB];rfl
    rw [e];exact hl)
theorem Xap [hi:HasI P t size bytes z] {x y:Operand} {q:PV} {cs:List PV} (ho:o.op=.store t x y) (hx:E.ev x=some (.ptr id off)) (hy:E.ev y=some q) (hB:H[id]?=some (some B)) (hsz:Nat.beq (cellsOf q).length size=true) (h1:(cellsOf q).all XV=true)
    (hown:B.own=true) (hle:Nat.ble (off+(cellsOf q).length) B.cells.length=true) (hcs:X6 B.cells off (cellsOf q)=cs):OpS P o E H (H.set id (some { B with cells:=cs })) :=
  XhO ho hx hy hsz h1 (by simp only [XdW,hB,hown,hle,Bool.and_self,hcs])
theorem XiU {sz len:Nat} {cs:List PV} (hB:H[id]?=some (some B)) (hc:Xai (len * sz) (B.cells.drop off)=some cs):Xq H sz (.sl id off len sz)=some (len,cs):=by
  simp [Xq,hB,hc]
theorem XeJ {e sz len k:Nat} {xs:List PV} (hB:H[id]?=some (some B)) (hown:B.own=true) (he:Nat.beq B.elem.tid e=true) (hl:Nat.beq B.cells.length (len * sz)=true) :
    Xo H e sz (.sl id 0 len sz) k xs=some (len+k,.sl H.length 0 (len+k) sz,H.set id none++[some ⟨B.cells++xs,e,true⟩]):=by
  simp [Xo,hB,hown,he,hl]
end
def hsL (L:List Xh) (k:Nat):Xh:=L.getD k []
theorem Xxo {P:Program} {n:Nat} {l:List Oper} {E0:Env} {Q:QA} {id:Nat} {G:Xh} (L:List Xh) (G':Xh) {N:Nat} (hm:P.follows .mixedOrders=true) (hB:Xf6 l=true) (hN:XdG l l.length=N) (hG:hsL (G::L) N=G')
    (h:DX P n l (hsL (G::L)) 0 l [] E0 (fun E=>Q .normal E G')):wpA P n (.region id l.toArray true) Q E0 G:=by
  subst hN
  subst hG
  exact XsZ (Hs:=hsL (G::L)) hm hB h
end Go.Th
namespace Go.Th
open Go.RowKit
section
variable {P:Program} {n:Nat} {Q:QA} {E:Env} {H:Xh} {o:Oper} {t:TypeId} {size bytes:Nat} {z:List Value} {B:Blk}
variable {l:List Oper} {acc:List PV} {Hs:Nat→Xh} {i:Nat} {os:List Oper} {p:PV} {d:Nat} {K:Env→Prop}
end
section
variable {P:Program} {n:Nat} {Q:QA} {E:Env} {H:Xh} {ops:Array Oper} {rest:List Oper}
theorem X0 {o:Oper} {c:Call} {x:Operand} {g:FuncId} {cap args:List PV} {QC:PV→Xh→Prop} {d:Nat} (hg:o.guard=none) (ho:o.op=.call c) (hc:c.callee=.value x) (hx:E.ev x=some (.fn (.func g) cap))
    (ha:evs E c.args.toList=some args) (hdd:o.dst=some d) (hd:d < n) (h:AC P g (args++cap) H QC)
    (k:∀ p H',QC p H'→wpL P n ops rest Q ((d,p)::E) H'):wpL P n ops (o::rest) Q E H :=
  XmT hg ho hc hx ha h (by rw [hdd];exact hd) fun p H' hq=>by rw [hdd];exact k p H' hq
theorem Xr {o:Oper} {c:Call} {x:Operand} {g:FuncId} {cap args:List PV} {QC:PV→Prop} {d:Nat} (hg:o.guard=none) (ho:o.op=.call c) (hc:c.callee=.value x) (hx:E.ev x=some (.fn (.func g) cap))
    (ha:evs E c.args.toList=some args) (hdd:o.dst=some d) (hd:d < n) (h:Iso P g (args++cap) QC) (ht:∀ c ∈ args++cap,Xi c)
    (k:∀ p,QC p→wpL P n ops rest Q ((d,p)::E) H):wpL P n ops (o::rest) Q E H :=
  XtF hg ho hc hx ha h ht (by rw [hdd];exact hd) fun p hq=>by rw [hdd];exact k p hq
end
theorem Xcw {P:Program} {n:Nat} {Q Q2:QA} {E:Env} {H:Xh} {x y:Code} {S:Type} (En:S→Env) (Hp:S→Xh→Prop) (h:wpA P n x (Xe0 (fun E' H'=>∃ s,Sub (En s) E'∧Hp s H') Q2) E H) (k:∀ s H',Hp s H'→wpA P n y Q (En s) H'):wpA P n x (Xe0 (wpA P n y Q) Q2) E H:=by
  refine XmW h ?_
  intro e E2 G2 hq
  cases e with
  | normal =>
    obtain ⟨s,h1,h2⟩:=hq
    exact Xev h1 (k s _ h2)
  | exit id=>exact hq
  | goto l=>exact hq
  | ret=>exact hq
  | panic c=>exact hq
  | outgrown=>exact hq
theorem TreeL.nil:∀ c ∈ ([]:List PV),Xi c:=fun c h=>by simp at h
theorem TreeL.cons {p:PV} {l:List PV} (h:Xi p) (k:∀ c ∈ l,Xi c):∀ c ∈ p::l,Xi c:=fun c hc=>by
  rcases List.mem_cons.1 hc with rfl | hc
  · exact h
  · exact k c hc
end Go.Th
namespace Go.Th
open Go.RowKit
structure Has (H:Xh) (L:List (Nat × Blk)):Prop where
  get:∀ (k id:Nat) (B:Blk),L[k]?=some (id,B)→H[id]?=some (some B)
  ne:∀ (i j:Nat) (x y:Nat × Blk),i≠j→L[i]?=some x→L[j]?=some y→x.1≠y.1
section
variable {H G:Xh} {L:List (Nat × Blk)} {k id:Nat} {B B':Blk}
theorem Has.nil (H:Xh):Has H []:=⟨fun k id B h=>by simp at h,fun i j x y _ h=>by simp at h⟩
theorem Has.lt (h:Has H L) (hk:L[k]?=some (id,B)):id < H.length:=XpN (h.get k id B hk)
theorem Has.ext (h:Has H L) (hx:Xw1 H G):Has G L:=⟨fun k id B hk=>hx.get (h.get k id B hk),h.ne⟩
theorem Has.app (h:Has H L) (t:Xh):Has (H++t) L:=h.ext (Xw1.app H t)
theorem Has.cons (h:Has G L) (hx:Has H L) (hid:G[id]?=some (some B)) (hge:H.length≤id):Has G ((id,B)::L):=by
  refine ⟨fun k i C hk=>?_,fun i j x y hne hi hj=>?_⟩
  · cases k with
    | zero=>simp at hk;obtain ⟨rfl,rfl⟩:=hk;exact hid
    | succ k=>exact h.get k i C (by simpa using hk)
  · have hl:∀ (k:Nat) (x:Nat × Blk),L[k]?=some x→x.1 < H.length:=fun k x hk=>hx.lt (k:=k) (id:=x.1) (B:=x.2) hk
    cases i with
    | zero =>
      cases j with
      | zero=>exact absurd rfl hne
      | succ j =>
        simp at hi hj;subst hi
        have:=hl j y hj
        simp only;omega
    | succ i =>
      cases j with
      | zero =>
        simp at hi hj;subst hj
        have:=hl i x hi
        simp only;omega
      | succ j=>exact h.ne i j x y (by omega) (by simpa using hi) (by simpa using hj)
theorem Has.new (h:Has H L) (b:Blk):Has (H++[some b]) ((H.length,b)::L):=(h.app _).cons h (Xp4 H (some b)) (Nat.le_refl _)
theorem Has.tail {x:Nat × Blk} (h:Has H (x::L)):Has H L:=⟨fun k id B hk=>h.get (k+1) id B (by simpa using hk),fun i j x y hne hi hj=>h.ne (i+1) (j+1) x y (by omega) (by simpa using hi) (by simpa using hj)⟩
theorem Xe4 {α:Type} {l:List α} {k j:Nat} {a b:α} (h:(l.set k a)[j]?=some b):(j=k∧b=a)∨(j≠k∧l[j]?=some b):=by
  rw [List.getElem?_set] at h
  by_cases e:k=j
  · subst e
    rw [if_pos rfl] at h
    split at h
    · cases h;exact .inl ⟨rfl,rfl⟩
    · cases h
  · rw [if_neg e] at h;exact .inr ⟨fun e'=>e e'.symm,h⟩
theorem Has.set (h:Has H L) (hk:L[k]?=some (id,B)) (B':Blk):Has (H.set id (some B')) (L.set k (id,B')):=by
  refine ⟨fun j i C hj=>?_,fun i j x y hne hi hj=>?_⟩
  · rcases Xe4 hj with ⟨rfl,e⟩ | ⟨hne,hj⟩
    · cases e;exact get_set (h.get _ _ _ hk)
    · exact get_set_ne (h.get j i C hj) (h.ne k j _ _ (fun e=>hne e.symm) hk hj)
  · rcases Xe4 hi with ⟨rfl,rfl⟩ | ⟨_,hi2⟩ <;> rcases Xe4 hj with ⟨rfl,rfl⟩ | ⟨_,hj2⟩
    · exact absurd rfl hne
    · exact h.ne _ j (id,B) _ hne hk hj2
    · exact h.ne i _ _ (id,B) hne hi2 hk
    · exact h.ne i j _ _ hne hi2 hj2
theorem Has.grow (h:Has H L) (hk:L[k]?=some (id,B)) (B':Blk):Has (H.set id none++[some B']) (L.set k (H.length,B')):=by
  have hl:∀ (k:Nat) (x:Nat × Blk),L[k]?=some x→x.1 < H.length:=fun k x hk=>h.lt (k:=k) (id:=x.1) (B:=x.2) hk
  refine ⟨fun j i C hj=>?_,fun i j x y hne hi hj=>?_⟩
  · rcases Xe4 hj with ⟨rfl,e⟩ | ⟨hne,hj⟩
    · cases e
      have:=Xp4 (H.set id none) (some B')
      rw [List.length_set] at this
      exact this
    · exact Xp5 (get_set_ne (h.get j i C hj) (h.ne k j _ _ (fun e=>hne e.symm) hk hj))
  · rcases Xe4 hi with ⟨rfl,rfl⟩ | ⟨_,hi2⟩ <;> rcases Xe4 hj with ⟨rfl,rfl⟩ | ⟨_,hj2⟩
    · exact absurd rfl hne
    · have:=hl _ _ hj2;simp only;omega
    · have:=hl _ _ hi2;simp only;omega
    · exact h.ne i j _ _ hne hi2 hj2
end
section
variable {P:Program} {n:Nat} {Q:QA} {E:Env} {H:Xh} {ops:Array Oper} {rest:List Oper} {o:Oper} {t e:TypeId} {d size bytes sz:Nat} {z:List Value} {L:List (Nat × Blk)} {k id off:Nat} {B:Blk} {td:TypeDesc}
theorem Xbl [hu:HasU P t td] [hi:HasI P t size bytes z] {x:Operand} {q:PV} (k:Nat) (hG:Has H L) (hg:o.guard=none) (hd:o.dst=some d) (hn:d < n) (ho:o.op=.load t x) (hx:E.ev x=some (.ptr id off)) (hk:L[k]?=some (id,B)) (hl:XfV td size B.cells off=some q)
    (h:wpL P n ops rest Q ((d,q)::E) H):wpL P n ops (o::rest) Q E H:=Xj hg hd hn (Xm ho hx (hG.get k id B hk) hl) h
theorem XnM [hi:HasI P t size bytes z] (hG:Has H L) (hg:o.guard=none) (hd:o.dst=some d) (hn:d < n) (ho:o.op=.alloc t) (hz:z.all (fun x=>x.oneCell')=true)
    (h:∀ id G,Has G ((id,⟨z.map PV.v,t,true⟩)::L)→wpL P n ops rest Q ((d,.ptr id 0)::E) G):wpL P n ops (o::rest) Q E H :=
  XfK hg hd hn (XhL ho hz) (h _ _ (hG.new _))
theorem XmU {x:Operand} {p:PV} (hG:Has H L) (hg:o.guard=none) (hd:o.dst=some d) (hn:d < n) (ho:o.op=.box t x) (hx:E.ev x=some p) (h1:(cellsOf p).all XV=true)
    (h:∀ id G,Has G ((id,⟨cellsOf p,t,true⟩)::L)→wpL P n ops rest Q ((d,.ptr id 0)::E) G):wpL P n ops (o::rest) Q E H :=
  XfK hg hd hn (XmF ho hx h1) (h _ _ (hG.new _))
theorem XnJ [hu:HasU P t (.slice e)] [hi:HasI P e sz bytes z] {m:Nat} {parts:Array (Nat × Operand)} {ps:List (Nat × PV)} {cs:List PV} (hG:Has H L) (hg:o.guard=none) (hd:o.dst=some d) (hn:d < n) (ho:o.op=.buildSlice t m parts) (hp:evp E parts.toList=some ps) (hz:z.all (fun x=>x.oneCell')=true)
    (hzl:Nat.beq z.length sz=true) (hpos:Nat.ble 1 sz=true) (hm:Nat.ble (m * sz) 16777216=true) (hc:Xcl (fun i=>some (i * sz,sz)) ((List.range (m * sz)).map fun j=>.v (z.getD (j % z.length) undef)) ps=some cs) (h1:cs.all XV=true)
    (h:∀ id G,Has G ((id,⟨cs,e,true⟩)::L)→wpL P n ops rest Q ((d,.sl id 0 m sz)::E) G):wpL P n ops (o::rest) Q E H :=
  XfK hg hd hn (Xbd ho hp hz hzl hpos hm hc h1) (h _ _ (hG.new _))
theorem XbI [hi:HasI P t size bytes z] {x y:Operand} {q:PV} {cs:List PV} (k:Nat) (hG:Has H L) (hg:o.guard=none) (hd:o.dst=none) (ho:o.op=.store t x y) (hx:E.ev x=some (.ptr id off)) (hy:E.ev y=some q) (hk:L[k]?=some (id,B)) (hsz:Nat.beq (cellsOf q).length size=true) (h1:(cellsOf q).all XV=true)
    (hown:B.own=true) (hle:Nat.ble (off+(cellsOf q).length) B.cells.length=true) (hcs:X6 B.cells off (cellsOf q)=cs)
    (h:∀ G,Has G (L.set k (id,{ B with cells:=cs }))→wpL P n ops rest Q E G):wpL P n ops (o::rest) Q E H :=
  Xxi hg hd (Xap ho hx hy (hG.get k id B hk) hsz h1 hown hle hcs) (h _ (hG.set hk _))
theorem Xag [hu:HasU P t (.slice e)] [hi:HasI P e sz bytes z] {x y:Operand} {q:PV} {m len:Nat} {xs:List PV} (k:Nat) (hG:Has H L) (hg:o.guard=none) (hd:o.dst=some d) (hn:d < n) (ho:o.op=.call { callee:=.builtin .append,args:=#[x,y],argTypes:=#[t,t] })
    (hx:E.ev x=some (.sl id 0 len sz)) (hy:E.ev y=some q) (hk:L[k]?=some (id,B)) (hown:B.own=true) (he:Nat.beq B.elem.tid e=true) (hl:B.cells.length=len * sz) (hzl:Nat.beq z.length sz=true) (hq:Xq H sz q=some (m,xs)) (h1:xs.all XV=true)
    (hb:(len+m) * bytes≤140737488355328) (h63:len+m≤9223372036854775807)
    (h:∀ id' G,Has G (L.set k (id',⟨B.cells++xs,e,true⟩))→wpL P n ops rest Q ((d,.sl id' 0 (len+m) sz)::E) G):wpL P n ops (o::rest) Q E H :=
  XfK hg hd hn (Xdq ho hx hy hzl hq h1 (XeJ (hG.get k id B hk) hown he (by rw [hl];exact Nat.beq_refl _)) hb h63) (h _ _ (hG.grow hk _))
theorem Has.cellsOf {len:Nat} {cs:List PV} (hG:Has H L) (hk:L[k]?=some (id,B)) (hc:Xai (len * sz) (B.cells.drop off)=some cs):Xq H sz (.sl id off len sz)=some (len,cs):=XiU (hG.get k id B hk) hc
theorem R.alt {m:Mp} {w:World} (h:R m H w) (hB:H[id]?=some (some B)) (B':Blk) (ho:B'.own=B.own) (he:B'.elem=B.elem) (hl:B'.cells.length=B.cells.length)
    (hc:∀ (j:Nat) (c':PV),B'.cells[j]?=some c'→∃ c,B.cells[j]?=some c∧∀ v,Rep m w c v→Rep m w c' v):R m (H.set id (some B')) w:=by
  have back:∀ i C,(H.set id (some B'))[i]?=some (some C)→∃ D,H[i]?=some (some D)∧D.own=C.own∧(i=id∧C=B'∨i≠id∧D=C):=fun i C hi=>by
    rcases XH hi with ⟨rfl,e⟩ | ⟨hne,hi⟩
    · cases e;exact ⟨B,hB,ho.symm,.inl ⟨rfl,rfl⟩⟩
    · exact ⟨C,hi,rfl,.inr ⟨hne,rfl⟩⟩
  refine ⟨h.rk,h.kl,fun i x hx=>by simpa using h.dom i x hx,fun i C b d lim hi hm=>?_,fun i j C D bi di li bj dj lj hne hi hj h1 h2 hmi hmj=>?_,by simpa using h.top⟩
  · obtain ⟨D,hD,hDo,hcase⟩:=back i C hi
    obtain ⟨q1,⟨cur,c1,c2,c3,c4⟩,q3,q4⟩:=h.blk i D b d lim hD hm
    rcases hcase with ⟨rfl,rfl⟩ | ⟨_,rfl⟩
    · rw [hB] at hD;cases hD
      refine ⟨q1,⟨cur,by rw [he];exact c1,c2,by rw [hl];exact c3,fun j c' hj=>?_⟩,by rw [ho];exact q3,by rw [ho];exact q4⟩
      obtain ⟨c,hcj,hcv⟩:=hc j c' hj
      obtain ⟨v,hv,hr,h1⟩:=c4 j c hcj
      exact ⟨v,hv,hcv v hr,h1⟩
    · exact ⟨q1,⟨cur,c1,c2,c3,c4⟩,q3,q4⟩
  · obtain ⟨C',hC',hCo,_⟩:=back i C hi
    obtain ⟨D',hD',hDo,_⟩:=back j D hj
    exact h.inj i j C' D' _ _ _ _ _ _ hne hC' hD' (by rw [hCo];exact h1) (by rw [hDo];exact h2) hmi hmj
theorem XQ {c:Code} (t:Nat) (e:TypeId) (sz:Nat) (hG:Has H L) (ht:E.get t=some (.v (.slice none 0 0))) (h:∀ id G,Has G ((id,⟨[],e,true⟩)::L)→wpA P n c Q ((t,.sl id 0 0 sz)::E) G):wpA P n c Q E H :=
  XoU t e sz ht (h _ _ (hG.new _))
theorem XfL {c:Code} (k j:Nat) (e:TypeId) (sz:Nat) (hG:Has H L) (hk:L[k]?=some (id,B)) (hc:B.cells[j]?=some (.v (.slice none 0 0)))
    (h:∀ i G,Has G ((i,⟨[],e,true⟩)::L.set k (id,{ B with cells:=B.cells.set j (.sl i 0 0 sz) }))→wpA P n c Q E G):wpA P n c Q E H:=by
  rintro rd m0 w0 a w ⟨h1,h2,m,h3,h4,h5⟩
  have hB:=hG.get k id B hk
  have hR:R m ((H++[some (Blk.mk [] e true)]).set id (some (Blk.mk (B.cells.set j (.sl H.length 0 0 sz)) B.elem B.own))) w:=by
    refine (h4.ghost (Blk.mk [] e true)).alt (Xp5 hB) _ rfl rfl (by simp) fun j' c' hj'=>?_
    rcases Xe4 hj' with ⟨rfl,rfl⟩ | ⟨_,hj'⟩
    · refine ⟨_,hc,fun v hv=>?_⟩
      rw [XA hv]
      exact .sl0 none
    · exact ⟨c',hj',fun v hv=>hv⟩
  have hH:Has ((H++[some (Blk.mk [] e true)]).set id (some (Blk.mk (B.cells.set j (.sl H.length 0 0 sz)) B.elem B.own))) ((H.length,Blk.mk [] e true)::L.set k (id,Blk.mk (B.cells.set j (.sl H.length 0 0 sz)) B.elem B.own)) :=
    (hG.new (Blk.mk [] e true)).set (k:=k+1) (by simpa using hk) _
  exact h _ _ hH rd m0 w0 a w ⟨h1,h2,m,h3,hR,h5⟩
end
end Go.Th
