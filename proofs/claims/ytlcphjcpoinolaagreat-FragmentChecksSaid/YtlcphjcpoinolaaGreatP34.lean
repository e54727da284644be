/- Part of the proof: the walk over the program and its laws: So Id. -/
import Derived.Test.YtlcphjcpoinolaaGreatP0
import Derived.Test.YtlcphjcpoinolaaGreatP33
set_option linter.unusedVariables false
namespace Go.Proofs.YtlcphjcpoinolaaGreat
open Go.RowKit Go.Th
set_option maxRecDepth 20000
theorem XoG (r:List Row) (hI:∀ l,SizeOf.sizeOf l < SizeOf.sizeOf r→SmI l):SmR r:=fun d n id H h1 h2 h3 h4 h5 =>
  Xtq 0 rfl Tryz.func103 (by kernel_rfl) (by kernel_rfl) fun hl=>Xyf r (fun x hx h cs e y hy dd hh ff e2=>hI ff (by
    have a1:=List.sizeOf_lt_of_mem hx
    have a2:=List.sizeOf_lt_of_mem hy
    subst e;subst e2
    simp at a1 a2
    omega)) hl d n id H h1 h2 h3 h4 h5
theorem Xk7:∀ (n:Nat) (l:List Item),SizeOf.sizeOf l≤n→SmI l:=by
  intro n
  induction n using Nat.strongRecOn with
  | _ n ih =>
    intro l hl d k id H h1 h2 h3 h4 h5
    refine Xtq 0 rfl Tryz.func44 (by kernel_rfl) (by kernel_rfl) fun hll=>Xyg l (fun x hx f r k c i t h e=>?_) hll d k id H h1 h2 h3 h4 h5
    have a1:=List.sizeOf_lt_of_mem hx
    subst e
    simp at a1
    exact ⟨ih (SizeOf.sizeOf f) (by omega) f (Nat.le_refl _),XoG r fun l' hl'=>ih (SizeOf.sizeOf l') (by omega) l' (Nat.le_refl _)⟩
theorem Xt4 (l:List Item):SmI l:=Xk7 _ l (Nat.le_refl _)
theorem XhB (l:List Item):Iso Tryz.prog 16 [Xh l] (fun p=>∃ b,p=B b∧(b=true→Xw l≤300)):=by
  have hG:=Xd
  refine Xb Tryz.func16 rfl rfl rfl ?_
  repeat(first|refine Zes ?_|(refine Zz ?_;intro G hG)|(refine ZI ?_;intro id G hG))
  refine X5 rfl rfl rfl rfl rfl rfl (by decide) (Xt4 l 12 300 _ _ (by omega) (by omega) (by omega) (by omega) (hG.get 0 _ _ rfl)) ?_
  rintro _ G2 ⟨b,n2,rfl,hB2,hn2⟩
  have hG:=Xcq hB2
  repeat(first|refine Zes ?_)
  exact XI rfl rfl (.refl _) (.v _) ⟨b,rfl,fun h=>by have:=hn2 h;omega⟩
theorem Xk5 {l:List Style} {i:Nat} {x:Style} (hx:l[i]?=some x):Xav 6 ((l.flatMap Xt).drop (i * 6))=some (Xt x):=Xp XaY l i x hx
theorem XnF {l:List Lst} {i:Nat} {x:Lst} (hx:l[i]?=some x):Xav 2 ((l.flatMap Xae).drop (i * 2))=some (Xae x):=Xp XfC l i x hx
def SmS (s:Sets):Prop:=s.styles.length≤20∧s.lists.length≤20∧s.comments.length≤20∧s.vars.length≤20∧(∀ (j:Nat) (x:Style),s.styles[j]?=some x→x.props.length≤40)∧∀ (j:Nat) (x:Lst),s.lists[j]?=some x→x.levels.length≤12
set_option maxHeartbeats 16000000 in
theorem XiH (s:Sets):Iso Tryz.prog 17 [.agg (XaI s)] (fun p=>∃ b,p=B b∧(b=true→SmS s)):=by
  have hG:=Xd
  refine Xb Tryz.func17 rfl rfl rfl ?_
  by_cases c1:(20:Int) < s.styles.length
  · repeat(first|refine Zes ?_|(refine ZH ?_;intro id G hG))
    exact Zba
  by_cases c2:(20:Int) < s.lists.length
  · repeat(first|refine Zes ?_|(refine ZH ?_;intro id G hG))
    exact Zba
  by_cases c3:(20:Int) < s.comments.length
  · repeat(first|refine Zes ?_|(refine ZH ?_;intro id G hG))
    exact Zba
  by_cases c4:(20:Int) < s.vars.length
  · repeat(first|refine Zes ?_|(refine ZH ?_;intro id G hG))
    exact Zba
  repeat(first|refine Zes ?_|(refine ZH ?_;intro id G hG))
  refine Xg (S:=Nat) (fun i=>[(1,.ptr id 0),(3,I i)]) (fun i G=>i≤s.styles.length∧(∀ (j:Nat) (x:Style),j < i→s.styles[j]?=some x→x.props.length≤40)∧G[id]?=some (some ⟨XaI s,51,true⟩)) (fun i=>s.styles.length - i) 0
    (.cons rfl (.cons rfl (.nil _))) ⟨Nat.zero_le _,fun j x h=>by omega,hG.get 0 _ _ rfl⟩ ?_
  clear hG
  rintro i G ⟨hi,hS,hB⟩
  have hG:=Xcq hB
  by_cases hil:i < s.styles.length
  · obtain ⟨x,hx⟩:∃ x,s.styles[i]?=some x:=⟨_,List.getElem?_eq_getElem hil⟩
    by_cases c5:(40:Int) < x.props.length
    · repeat(first|refine Zes ?_|refine Zdp ?_)
      exact Zba
    · repeat(first|refine Zes ?_|refine Zdp ?_)
      exact ⟨i+1,by omega,.cons rfl (.cons rfl (.nil _)),by omega,fun j y hj hy=>by
        by_cases e:j=i
        · subst e;rw [hx] at hy;cases hy;omega
        · exact hS j y (by omega) hy,hB⟩
  · have hS:∀ (j:Nat) (x:Style),s.styles[j]?=some x→x.props.length≤40:=fun j x h=>hS j x (by have:=(List.getElem?_eq_some_iff.1 h).1;omega) h
    repeat(first|refine Zes ?_)
    refine Xg (S:=Nat) (fun i=>[(1,.ptr id 0),(4,I i)]) (fun i G=>i≤s.lists.length∧(∀ (j:Nat) (x:Lst),j < i→s.lists[j]?=some x→x.levels.length≤12)∧G[id]?=some (some ⟨XaI s,51,true⟩)) (fun i=>s.lists.length - i) 0
      (.cons rfl (.cons rfl (.nil _))) ⟨Nat.zero_le _,fun j x h=>by omega,hB⟩ ?_
    clear hG hB
    rintro i G ⟨hi,hL,hB⟩
    have hG:=Xcq hB
    by_cases hil:i < s.lists.length
    · obtain ⟨x,hx⟩:∃ x,s.lists[i]?=some x:=⟨_,List.getElem?_eq_getElem hil⟩
      by_cases c5:(12:Int) < x.levels.length
      · repeat(first|refine Zes ?_|refine Zdq ?_)
        exact Zba
      · repeat(first|refine Zes ?_|refine Zdq ?_)
        exact ⟨i+1,by omega,.cons rfl (.cons rfl (.nil _)),by omega,fun j y hj hy=>by
          by_cases e:j=i
          · subst e;rw [hx] at hy;cases hy;omega
          · exact hL j y (by omega) hy,hB⟩
    · repeat(first|refine Zes ?_)
      exact XI rfl rfl (.refl _) (.v _) ⟨true,rfl,fun _=>⟨by omega,by omega,by omega,by omega,hS,fun j x h=>hL j x (by have:=(List.getElem?_eq_some_iff.1 h).1;omega) h⟩⟩
end Go.Proofs.YtlcphjcpoinolaaGreat
namespace Go.Proofs.YtlcphjcpoinolaaGreat
open Go.RowKit Go.Th
set_option maxRecDepth 20000
theorem Xa3 {P:Program} {f:FuncId} {args:List PV} {Q:PV→Xi→Prop} {Q':PV→Prop} (h:AC P f args [] Q) (hq:∀ p H,Q p H→∃ q,Conv H p q∧Xk q∧Q' q):Iso P f args Q':=by
  refine ⟨h.1,fun m w vals h1 h2 h3 hv=>?_⟩
  have hR:R { m with top:=0 } [] w:=R.nil h1 h2 h3 rfl
  have hv:Xek { m with top:=0 } w args vals:=⟨hv.1,fun j c hj=>(hv.2 j c hj).retop 0⟩
  refine (h.2 _ w vals hR hv).mono ?_
  rintro e w' ⟨v,p,H',m',rfl,hp,hr,hR',hle⟩
  obtain ⟨q,hc,ht,hq⟩:=hq p H' hp
  have hcl:=Xfm hR'
  have hrep:=ht _ w' v (hc.rep hR' (hr.mono hR'.rk hcl))
  have hle2:=hle.trans hcl
  refine ⟨v,q,{ closed m' H' with blk:=fun _=>none,top:=m.top },rfl,hq,?_,fun _=>rfl,⟨(fun id x hx=>by rw [h3 id] at hx;cases hx),hle2.ro,hle2.keep,hle2.same,hle2.size,hle2.os,hle2.tape,hle2.output,hle2.fresh,rfl,fun id _=>(h3 id).symm⟩,fun b hb=>?_,fun b hb=>?_⟩
  · exact Rep.mono' (m:={ closed m' H' with blk:=fun _=>none }) (m':={ closed m' H' with blk:=fun _=>none,top:=m.top }) (w:=w') (w':=w') (fun _ _ h=>h) (fun _ h=>h) (fun _ _ _=>rfl) hrep
  · rcases hb with hb | hb
    · exact .inl (hR'.rk b hb)
    · exact .inr hb
  · rcases hb with hb | ⟨id,B,d,lim,hB,hm⟩
    · exact hR'.kl b hb
    · exact hR'.lt hB hm
theorem XbU {G:Xi} {id e:Nat} {cs ds:List PV} {L:List (Nat × Blk)} (h:Has G ((id,⟨cs,e,true⟩)::L)) (eq:cs=ds):Has G ((id,⟨ds,e,true⟩)::L):=eq ▸ h
theorem XmH (l:List Int):(l.map I).all XZ=true:=List.all_eq_true.2 fun c hc=>by
  obtain ⟨x,_,rfl⟩:=List.mem_map.1 hc
  rfl
def Xpz (l:List Int):PV:=.tr (l.map I) l.length 1
theorem XhX (l:List Int):Xk (Xpz l):=Xk.tr fun c hc=>by
  obtain ⟨x,_,rfl⟩:=List.mem_map.1 hc
  exact Xe x
end Go.Proofs.YtlcphjcpoinolaaGreat
