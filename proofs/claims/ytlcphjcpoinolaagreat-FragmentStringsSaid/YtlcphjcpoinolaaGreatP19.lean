/- Part of the proof: the walk over the program and its laws: Cl Cm. -/
import Derived.Laws.Cover3
import Derived.Test.YtlcphjcpoinolaaGreatP0
import Derived.Test.YtlcphjcpoinolaaGreatP3
import Derived.Test.YtlcphjcpoinolaaGreatP12
set_option linter.unusedVariables false
namespace Go.Th
open Go.RowKit
section
variable {P:Program} {n:Nat} {Q:QA} {E:Env} {H:Xh} {ops:Array Oper} {rest:List Oper}
theorem Xrb {t e:TypeId} [hu:HasU P t (.slice e)] {o:Oper} {d sz len:Nat} {cells:List PV} {x:Operand} {ty:TypeId} (hg:o.guard=none) (ho:o.op=.binOp .eql t x (.const (.slice none 0 0)) ty) (hx:E.ev x=some (.tr cells len sz)) (hd:o.dst=some d) (hn:d < n)
    (h:∀ b,(b=true→len=0)→wpL P n ops rest Q ((d,.v (.bool b))::E) H):wpL P n ops (o::rest) Q E H:=by
  rintro rd m0 w0 a w ⟨h1,h2,m,h3,h4,h5⟩
  have hr:=h5.ev hx
  obtain ⟨s,l,c,hs,h0⟩:∃ s l c,a.eval x=.slice s l c∧(s.isNone=true→len=0):=by
    generalize a.eval x=v at hr
    cases hr with
    | tr f _ _ _ _ _ _=>exact ⟨_,_,_,rfl,fun h=>by simp at h⟩
    | tr0 a _=>exact ⟨_,_,_,rfl,fun _=>rfl⟩
    | trn=>exact ⟨_,_,_,rfl,fun _=>rfl⟩
  refine wpListIn_plain hg fun K hK=>?_
  have hc:a.eval (.const (.slice none 0 0))=.slice none 0 0:=rfl
  have hrun:(execOp a.eval o).run P w=.ok (.value (.bool s.isNone)) w:=by
    simp [execOp,ho,hs,hc,eqGuard,binOp,Op.equal,Op.maxDepth,run_equalIn_slice_nil w 9999 t e s l c hu.u]
  refine XeA hrun ?_
  rw [hd]
  exact hK _ _ (h s.isNone h0 rd m0 w0 (a.put (some d) (.bool s.isNone)) w ⟨by simp [Act.put,h1],h2,m,h3,h4,h5.put (by omega) (.v _ rfl)⟩)
end
def XeU (cells:List PV) (e n sz:Nat) (p:PV) (G:Xh):Prop:=∃ o,p=.sl o 0 n sz∧G[o]?=some (some ⟨cells,e,true⟩)
theorem Xte {P:Program} {f:FuncId} {args cells:List PV} {e n sz:Nat} (h:AC P f args [] (XeU cells e n sz)) (ht:∀ c ∈ args,Xi c) (htc:∀ c ∈ cells,Xi c) (H:Xh) :
    AC P f args H (fun p H'=>p=.sl H.length 0 n sz∧H'=H++[some ⟨cells,e,true⟩]):=by
  refine ⟨h.1,fun m w vals hR hv=>?_⟩
  have hR0:R { blk:=fun _=>none,ro:=m.ro,keep:=fun b=>b < w.heap.size } [] w:=R.nil (fun b hb=>hR.kl b (hR.rk b hb)) (fun b hb=>hb) (fun _=>rfl) rfl
  have hv':XeK { blk:=fun _=>none,ro:=m.ro,keep:=fun b=>b < w.heap.size } w args vals:=⟨hv.1,fun j c hj=>by
    have h1:=ht c (List.mem_of_getElem? hj) m w _ (hv.2 j c hj)
    exact Rep.mono' (m:={ m with blk:=fun _=>none }) (m':={ blk:=fun _=>none,ro:=m.ro,keep:=fun b=>b < w.heap.size }) (w':=w) (fun _ _ h=>h) (fun _ h=>h) (fun _ _ _=>rfl) h1⟩
  refine (h.2 _ w vals hR0 hv').mono ?_
  rintro en w' ⟨v,p,G,m',rfl,⟨o,rfl,hB⟩,hr,hR',hle⟩
  have hsame:∀ b,b < w.heap.size→w'.heap[b]?=w.heap[b]?:=fun b hb=>hle.same b hb
  have hfresh:∀ b,m'.ro b→m.ro b∨w.heap.size≤b:=fun b hb=>(hle.fresh b hb).elim .inl (fun h=>.inr (Nat.le_of_not_lt h))
  have hro:∀ b,m.ro b→m'.ro b:=fun b hb=>hle.ro b hb
  have hrolt:∀ b,m.ro b→b < w.heap.size:=fun b hb=>hR.kl b (hR.rk b hb)
  have gen:∀ (nb:Option (Nat × Nat × Nat)),(∀ x,nb=some x→w.heap.size≤x.1) →
      (∀ b d lim,nb=some (b,d,lim)→True∧Xeu { blk:=fun i=>if i=H.length then nb else m.blk i,ro:=m'.ro,keep:=fun k=>m.keep k∨m'.ro k,top:=m.top } w' ⟨cells,e,true⟩ b d lim∧¬ m'.ro b) →
      Le m w { blk:=fun i=>if i=H.length then nb else m.blk i,ro:=m'.ro,keep:=fun k=>m.keep k∨m'.ro k,top:=m.top } w' ∧
      R { blk:=fun i=>if i=H.length then nb else m.blk i,ro:=m'.ro,keep:=fun k=>m.keep k∨m'.ro k,top:=m.top } (H++[some ⟨cells,e,true⟩]) w':=by
    intro nb hnb hblk
    have hmono:∀ id x,m.blk id=some x→(if id=H.length then nb else m.blk id)=some x:=fun id x hx=>by
      have:=hR.dom id x hx
      rw [if_neg (by omega)];exact hx
    have hrep:∀ c v,Rep m w c v→Rep { blk:=fun i=>if i=H.length then nb else m.blk i,ro:=m'.ro,keep:=fun k=>m.keep k∨m'.ro k,top:=m.top } w' c v:=fun c v hr =>
      Rep.mono' (m:=m) (w:=w) (m':={ blk:=fun i=>if i=H.length then nb else m.blk i,ro:=m'.ro,keep:=fun k=>m.keep k∨m'.ro k,top:=m.top }) (w':=w') hmono hro (fun b x hb=>World.cell?_of_block (hsame b (hrolt b hb))) hr
    refine ⟨⟨hmono,hro,fun b hb=>.inl hb,fun b hb=>hsame b (hR.kl b hb),hle.size,hle.os,hle.tape,hle.output,fun b hb=>(hfresh b hb).elim .inl (fun h=>.inr fun h2=>by have:=hR.kl b h2;omega),rfl,fun id hid=>?_⟩,?_⟩
    · have:=hR.top
      show (if id=H.length then nb else m.blk id)=m.blk id
      rw [if_neg (by omega)]
    · have live:∀ (i:Nat) (C:Blk) x,(H++[some ⟨cells,e,true⟩])[i]?=some (some C)→i≠H.length→(if i=H.length then nb else m.blk i)=some x→H[i]?=some (some C)∧m.blk i=some x:=fun i C x hi hne hm=>by
        rw [if_neg hne] at hm
        have:=hR.dom i x hm
        rw [List.getElem?_append_left this] at hi
        exact ⟨hi,hm⟩
      refine ⟨fun b hb=>.inr hb,fun b hb=>?_,fun i x hx=>?_,fun i C b d lim hi hm=>?_,fun i j C D bi di li bj dj lj hne hi hj ho1 ho2 hmi hmj=>?_,?_⟩
      · rcases hb with hb | hb
        · have:=hR.kl b hb;have:=hle.size;omega
        · exact hR'.kl b (hR'.rk b hb)
      · simp only [List.length_append,List.length_cons,List.length_nil]
        by_cases e1:i=H.length
        · omega
        · have hx':m.blk i=some x:=by simpa [e1] using hx
          have:=hR.dom i x hx';omega
      · by_cases e1:i=H.length
        · subst e1
          have hi':C=⟨cells,e,true⟩:=by simpa using hi.symm
          subst hi'
          have hm':nb=some (b,d,lim):=by simpa using hm
          obtain ⟨h0,h1,h2⟩:=hblk b d lim hm'
          refine ⟨h0,h1,fun _ hk=>?_,fun h=>by cases h⟩
          rcases hk with hk | hk
          · have h3:=hR.kl b hk
            have h4:=hnb _ hm'
            simp only at h4
            omega
          · exact h2 hk
        · obtain ⟨hi',hm'⟩:=live i C _ hi e1 hm
          obtain ⟨h0,⟨cur,c1,c2,c3,c4⟩,h5,h6⟩:=hR.blk i C b d lim hi' hm'
          have hlt:=hR.lt hi' hm'
          refine ⟨h0,⟨cur,by rw [hsame b hlt];exact c1,c2,c3,fun j c hj=>let ⟨u,u1,u2,u3⟩:=c4 j c hj;⟨u,u1,hrep c u u2,u3⟩⟩,fun ho hk=>?_,fun ho=>hro b (h6 ho)⟩
          rcases hk with hk | hk
          · exact h5 ho hk
          · rcases hfresh b hk with hk | hk
            · exact h5 ho (hR.rk b hk)
            · omega
      · by_cases ei:i=H.length
        · have ej:j≠H.length:=fun e=>hne (by rw [ei,e])
          obtain ⟨hj',hmj'⟩:=live j D _ hj ej hmj
          have h1:=hR.lt hj' hmj'
          have hmi':nb=some (bi,di,li):=by simpa [ei] using hmi
          have h2:=hnb _ hmi'
          simp only at h2
          omega
        · obtain ⟨hi',hmi'⟩:=live i C _ hi ei hmi
          by_cases ej:j=H.length
          · have h1:=hR.lt hi' hmi'
            have hmj':nb=some (bj,dj,lj):=by simpa [ej] using hmj
            have h2:=hnb _ hmj'
            simp only at h2
            omega
          · obtain ⟨hj',hmj'⟩:=live j D _ hj ej hmj
            exact hR.inj i j C D _ _ _ _ _ _ hne hi' hj' ho1 ho2 hmi' hmj'
      · have:=hR.top
        simp only [List.length_append,List.length_cons,List.length_nil]
        omega
  cases hr with
  | @sl _ _ _ _ b lim cap hm a1 a2 a3 =>
    obtain ⟨_,⟨cur,c1,c2,c3,c4⟩,hk1,_⟩:=hR'.blk o _ b 0 lim hB hm
    have hnk:=hk1 rfl
    have hge:w.heap.size≤b:=Nat.le_of_not_lt fun hlt=>hnk (hle.keep b hlt)
    obtain ⟨g1,g2⟩:=gen (some (b,0,lim)) (fun x hx=>by cases hx;exact hge) (fun b' d' lim' hx=>by
      cases hx
      refine ⟨trivial,⟨cur,c1,c2,c3,fun j c hj=>?_⟩,fun hro'=>hnk (hR'.rk b hro')⟩
      obtain ⟨u,u1,u2,u3⟩:=c4 j c hj
      refine ⟨u,u1,?_,u3⟩
      have:=htc c (List.mem_of_getElem? hj) m' w' u u2
      refine Rep.mono' (m:={ m' with blk:=fun _=>none }) (w:=w') (w':=w') ?_ ?_ (fun _ _ _=>rfl) this
      · intro id x hx;cases hx
      · intro b hb;exact hb)
    exact ⟨_,_,_,_,rfl,⟨rfl,rfl⟩,.sl (off:=0) (lim:=lim) (by simp) a1 a2 a3,g2,g1⟩
  | sl0 a =>
    obtain ⟨g1,g2⟩:=gen none (fun x hx=>by cases hx) (fun b d lim hx=>by cases hx)
    exact ⟨_,_,_,_,rfl,⟨rfl,rfl⟩,.sl0 a,g2,g1⟩
end Go.Th
namespace Go.Proofs.YtlcphjcpoinolaaGreat
open Go.RowKit Go.Th
set_option maxRecDepth 20000
theorem XC {α:Type} {enc:α→List PV} {sz:Nat} (h:∀ x,(enc x).length=sz):∀ l:List α,(l.flatMap enc).length=l.length * sz
  | []=>by simp
  | x::l=>by rw [List.flatMap_cons,List.length_append,h,XC h l,List.length_cons,Nat.add_mul,Nat.one_mul,Nat.add_comm]
theorem Xcx {α:Type} {enc:α→List PV} (h:∀ x,(enc x).all XV=true) (l:List α):(l.flatMap enc).all XV=true:=List.all_eq_true.2 fun c hc=>by
  obtain ⟨x,_,hx⟩:=List.mem_flatMap.1 hc
  exact List.all_eq_true.1 (h x) c hx
theorem XeU.conv {α:Type} {enc:α→List PV} {l:List α} {e sz:Nat} {p:PV} {G:Xh} (ht:∀ x ∈ l,∀ c ∈ enc x,Xi c) (hl:(l.flatMap enc).length=l.length * sz) (h:XeU (l.flatMap enc) e l.length sz p G):∃ q,Conv G p q∧Xi q∧q=XaK enc sz l:=by
  obtain ⟨o,rfl,hG⟩:=h
  exact ⟨XaK enc sz l,.sl hG (Xd6 (by simpa using hl)) rfl (fun j c d hc hd=>by rw [hc] at hd;cases hd;exact .refl _),XaT ht,rfl⟩
theorem XyQ (x:Prp):(Xa1 x).length=2:=by cases x;rfl
theorem XBn (x:Prp):(Xa1 x).all XV=true:=by cases x;rfl
set_option maxHeartbeats 4000000 in
theorem XwP (l:List Prp) (hl:l.length≤1000000):AC Tryz.prog 141 [XaK Xa1 2 l] [] (XeU (l.flatMap Xa1) 183 l.length 2):=by
  have hG:=Xc
  have ho:=Xcx XBn l
  have hn:=XC XyQ l
  refine Xw Tryz.func141 rfl rfl rfl ?_
  repeat(first|refine Zd1 ?_)
  refine ZaI ?_
  intro b hb
  cases b with
  | true =>
    have e0:l=[]:=List.length_eq_zero_iff.1 (hb rfl)
    subst e0
    refine Za ?_
    refine ZaJ ?_
    refine Zc ?_
    refine Zb ?_
    repeat(first|refine Zd ?_)
    refine Za ?_
    refine XQ 2 183 2 hG rfl ?_
    intro id G hG
    repeat(first|refine Zd1 ?_)
    exact ZaK
  | false =>
    repeat(first|refine Zd1 ?_|(refine ZaL ?_;intro id2 G hG)|(refine ZL ?_;intro id G hG))
    have e:0+l.length=l.length:=by omega
    rw [e] at *
    exact ZaM
theorem XyP (x:Dl):(Xdc x).length=2:=by cases x;rfl
theorem XBm (x:Dl):(Xdc x).all XV=true:=by cases x;rfl
set_option maxHeartbeats 4000000 in
theorem XwO (l:List Dl) (hl:l.length≤1000000):AC Tryz.prog 142 [XaK Xdc 2 l] [] (XeU (l.flatMap Xdc) 199 l.length 2):=by
  have hG:=Xc
  have ho:=Xcx XBm l
  have hn:=XC XyP l
  refine Xw Tryz.func142 rfl rfl rfl ?_
  repeat(first|refine Zd1 ?_)
  refine ZaI ?_
  intro b hb
  cases b with
  | true =>
    have e0:l=[]:=List.length_eq_zero_iff.1 (hb rfl)
    subst e0
    refine Za ?_
    refine ZaJ ?_
    refine Zc ?_
    refine Zb ?_
    repeat(first|refine Zd ?_)
    refine Za ?_
    refine XQ 2 199 2 hG rfl ?_
    intro id G hG
    repeat(first|refine Zd1 ?_)
    exact ZaK
  | false =>
    repeat(first|refine Zd1 ?_|(refine ZaL ?_;intro id2 G hG)|(refine ZL ?_;intro id G hG))
    have e:0+l.length=l.length:=by omega
    rw [e] at *
    exact ZaM
theorem XyO (x:Lyr):(XaD x).length=4:=by cases x;rfl
theorem XBl (x:Lyr):(XaD x).all XV=true:=by cases x;rfl
set_option maxHeartbeats 4000000 in
theorem XwN (l:List Lyr) (hl:l.length≤1000000):AC Tryz.prog 143 [XaK XaD 4 l] [] (XeU (l.flatMap XaD) 203 l.length 4):=by
  have hG:=Xc
  have ho:=Xcx XBl l
  have hn:=XC XyO l
  refine Xw Tryz.func143 rfl rfl rfl ?_
  repeat(first|refine Zd1 ?_)
  refine ZaI ?_
  intro b hb
  cases b with
  | true =>
    have e0:l=[]:=List.length_eq_zero_iff.1 (hb rfl)
    subst e0
    refine Za ?_
    refine ZaJ ?_
    refine Zc ?_
    refine Zb ?_
    repeat(first|refine Zd ?_)
    refine Za ?_
    refine XQ 2 203 4 hG rfl ?_
    intro id G hG
    repeat(first|refine Zd1 ?_)
    exact ZaK
  | false =>
    repeat(first|refine Zd1 ?_|(refine ZaL ?_;intro id2 G hG)|(refine ZL ?_;intro id G hG))
    have e:0+l.length=l.length:=by omega
    rw [e] at *
    exact ZaM
theorem XpQ (x:Style):(Xt x).length=6:=by cases x;rfl
theorem XyH (x:Style):(Xt x).all XV=true:=by cases x;rfl
set_option maxHeartbeats 4000000 in
theorem XsB (l:List Style) (hl:l.length≤1000000):AC Tryz.prog 160 [XaK Xt 6 l] [] (XeU (l.flatMap Xt) 100 l.length 6):=by
  have hG:=Xc
  have ho:=Xcx XyH l
  have hn:=XC XpQ l
  refine Xw Tryz.func160 rfl rfl rfl ?_
  repeat(first|refine Zd1 ?_)
  refine ZaI ?_
  intro b hb
  cases b with
  | true =>
    have e0:l=[]:=List.length_eq_zero_iff.1 (hb rfl)
    subst e0
    refine Za ?_
    refine ZaJ ?_
    refine Zc ?_
    refine Zb ?_
    repeat(first|refine Zd ?_)
    refine Za ?_
    refine XQ 2 100 6 hG rfl ?_
    intro id G hG
    repeat(first|refine Zd1 ?_)
    exact ZaK
  | false =>
    repeat(first|refine Zd1 ?_|(refine ZaL ?_;intro id2 G hG)|(refine ZL ?_;intro id G hG))
    have e:0+l.length=l.length:=by omega
    rw [e] at *
    exact ZaM
theorem XpP (x:Lst):(XaE x).length=2:=by cases x;rfl
theorem XyG (x:Lst):(XaE x).all XV=true:=by cases x;rfl
set_option maxHeartbeats 4000000 in
theorem XsA (l:List Lst) (hl:l.length≤1000000):AC Tryz.prog 161 [XaK XaE 2 l] [] (XeU (l.flatMap XaE) 103 l.length 2):=by
  have hG:=Xc
  have ho:=Xcx XyG l
  have hn:=XC XpP l
  refine Xw Tryz.func161 rfl rfl rfl ?_
  repeat(first|refine Zd1 ?_)
  refine ZaI ?_
  intro b hb
  cases b with
  | true =>
    have e0:l=[]:=List.length_eq_zero_iff.1 (hb rfl)
    subst e0
    refine Za ?_
    refine ZaJ ?_
    refine Zc ?_
    refine Zb ?_
    repeat(first|refine Zd ?_)
    refine Za ?_
    refine XQ 2 103 2 hG rfl ?_
    intro id G hG
    repeat(first|refine Zd1 ?_)
    exact ZaK
  | false =>
    repeat(first|refine Zd1 ?_|(refine ZaL ?_;intro id2 G hG)|(refine ZL ?_;intro id G hG))
    have e:0+l.length=l.length:=by omega
    rw [e] at *
    exact ZaM
theorem Xtj (x:Comment):(Xar x).length=6:=by cases x;rfl
theorem XyF (x:Comment):(Xar x).all XV=true:=by cases x;rfl
set_option maxHeartbeats 4000000 in
theorem Xsz (l:List Comment) (hl:l.length≤1000000):AC Tryz.prog 162 [XaK Xar 6 l] [] (XeU (l.flatMap Xar) 138 l.length 6):=by
  have hG:=Xc
  have ho:=Xcx XyF l
  have hn:=XC Xtj l
  refine Xw Tryz.func162 rfl rfl rfl ?_
  repeat(first|refine Zd1 ?_)
  refine ZaI ?_
  intro b hb
  cases b with
  | true =>
    have e0:l=[]:=List.length_eq_zero_iff.1 (hb rfl)
    subst e0
    refine Za ?_
    refine ZaJ ?_
    refine Zc ?_
    refine Zb ?_
    repeat(first|refine Zd ?_)
    refine Za ?_
    refine XQ 2 138 6 hG rfl ?_
    intro id G hG
    repeat(first|refine Zd1 ?_)
    exact ZaK
  | false =>
    repeat(first|refine Zd1 ?_|(refine ZaL ?_;intro id2 G hG)|(refine ZL ?_;intro id G hG))
    have e:0+l.length=l.length:=by omega
    rw [e] at *
    exact ZaM
theorem Xti (x:Var):(Xc6 x).length=2:=by cases x;rfl
theorem XyE (x:Var):(Xc6 x).all XV=true:=by cases x;rfl
set_option maxHeartbeats 4000000 in
theorem Xsy (l:List Var) (hl:l.length≤1000000):AC Tryz.prog 163 [XaK Xc6 2 l] [] (XeU (l.flatMap Xc6) 141 l.length 2):=by
  have hG:=Xc
  have ho:=Xcx XyE l
  have hn:=XC Xti l
  refine Xw Tryz.func163 rfl rfl rfl ?_
  repeat(first|refine Zd1 ?_)
  refine ZaI ?_
  intro b hb
  cases b with
  | true =>
    have e0:l=[]:=List.length_eq_zero_iff.1 (hb rfl)
    subst e0
    refine Za ?_
    refine ZaJ ?_
    refine Zc ?_
    refine Zb ?_
    repeat(first|refine Zd ?_)
    refine Za ?_
    refine XQ 2 141 2 hG rfl ?_
    intro id G hG
    repeat(first|refine Zd1 ?_)
    exact ZaK
  | false =>
    repeat(first|refine Zd1 ?_|(refine ZaL ?_;intro id2 G hG)|(refine ZL ?_;intro id G hG))
    have e:0+l.length=l.length:=by omega
    rw [e] at *
    exact ZaM
theorem Xth (x:Level):(Xbj x).length=4:=by cases x;rfl
theorem XyD (x:Level):(Xbj x).all XV=true:=by cases x;rfl
set_option maxHeartbeats 4000000 in
theorem Xsx (l:List Level) (hl:l.length≤1000000):AC Tryz.prog 164 [XaK Xbj 4 l] [] (XeU (l.flatMap Xbj) 127 l.length 4):=by
  have hG:=Xc
  have ho:=Xcx XyD l
  have hn:=XC Xth l
  refine Xw Tryz.func164 rfl rfl rfl ?_
  repeat(first|refine Zd1 ?_)
  refine ZaI ?_
  intro b hb
  cases b with
  | true =>
    have e0:l=[]:=List.length_eq_zero_iff.1 (hb rfl)
    subst e0
    refine Za ?_
    refine ZaJ ?_
    refine Zc ?_
    refine Zb ?_
    repeat(first|refine Zd ?_)
    refine Za ?_
    refine XQ 2 127 4 hG rfl ?_
    intro id G hG
    repeat(first|refine Zd1 ?_)
    exact ZaK
  | false =>
    repeat(first|refine Zd1 ?_|(refine ZaL ?_;intro id2 G hG)|(refine ZL ?_;intro id G hG))
    have e:0+l.length=l.length:=by omega
    rw [e] at *
    exact ZaM
theorem XyR (x:Rev):(Xcn x).length=3:=by cases x;rfl
theorem XBo (x:Rev):(Xcn x).all XV=true:=by cases x;rfl
set_option maxHeartbeats 4000000 in
theorem XwQ (l:List Rev) (hl:l.length≤1000000):AC Tryz.prog 66 [XaK Xcn 3 l] [] (XeU (l.flatMap Xcn) 133 l.length 3):=by
  have hG:=Xc
  have ho:=Xcx XBo l
  have hn:=XC XyR l
  refine Xw Tryz.func66 rfl rfl rfl ?_
  repeat(first|refine Zd1 ?_)
  refine ZaI ?_
  intro b hb
  cases b with
  | true =>
    have e0:l=[]:=List.length_eq_zero_iff.1 (hb rfl)
    subst e0
    refine Za ?_
    refine ZaJ ?_
    refine Zc ?_
    refine Zb ?_
    repeat(first|refine Zd ?_)
    refine Za ?_
    refine XQ 2 133 3 hG rfl ?_
    intro id G hG
    repeat(first|refine Zd1 ?_)
    exact ZaK
  | false =>
    repeat(first|refine Zd1 ?_|(refine ZaL ?_;intro id2 G hG)|(refine ZL ?_;intro id G hG))
    have e:0+l.length=l.length:=by omega
    rw [e] at *
    exact ZaM
end Go.Proofs.YtlcphjcpoinolaaGreat
