/- Part of the proof: the walk over the program and its laws: So Id. -/
import Derived.Test.YtlcphjcpoinolaaGreatP0
import Derived.Test.YtlcphjcpoinolaaGreatP20
set_option linter.unusedVariables false
namespace Go.Proofs.YtlcphjcpoinolaaGreat
open Go.RowKit Go.Th
set_option maxRecDepth 20000
def SmS (s:Sets):Prop:=s.styles.length≤20∧s.lists.length≤20∧s.comments.length≤20∧s.vars.length≤20∧(∀ (j:Nat) (x:Style),s.styles[j]?=some x→x.props.length≤40)∧∀ (j:Nat) (x:Lst),s.lists[j]?=some x→x.levels.length≤12
end Go.Proofs.YtlcphjcpoinolaaGreat
namespace Go.Proofs.YtlcphjcpoinolaaGreat
open Go.RowKit Go.Th
set_option maxRecDepth 20000
theorem XaY {P:Program} {f:FuncId} {args:List PV} {Q:PV→Xh→Prop} {Q':PV→Prop} (h:AC P f args [] Q) (hq:∀ p H,Q p H→∃ q,Conv H p q∧Xi q∧Q' q):Iso P f args Q':=by
  refine ⟨h.1,fun m w vals h1 h2 h3 hv=>?_⟩
  have hR:R { m with top:=0 } [] w:=R.nil h1 h2 h3 rfl
  have hv:XeK { m with top:=0 } w args vals:=⟨hv.1,fun j c hj=>(hv.2 j c hj).retop 0⟩
  refine (h.2 _ w vals hR hv).mono ?_
  rintro e w' ⟨v,p,H',m',rfl,hp,hr,hR',hle⟩
  obtain ⟨q,hc,ht,hq⟩:=hq p H' hp
  have hcl:=XfD hR'
  have hrep:=ht _ w' v (hc.rep hR' (hr.mono hR'.rk hcl))
  have hle2:=hle.trans hcl
  refine ⟨v,q,{ closed m' H' with blk:=fun _=>none,top:=m.top },rfl,hq,?_,fun _=>rfl,⟨(fun id x hx=>by rw [h3 id] at hx;cases hx),hle2.ro,hle2.keep,hle2.same,hle2.size,hle2.os,hle2.tape,hle2.output,hle2.fresh,rfl,fun id _=>(h3 id).symm⟩,fun b hb=>?_,fun b hb=>?_⟩
  · exact Rep.mono' (m:={ closed m' H' with blk:=fun _=>none }) (m':={ closed m' H' with blk:=fun _=>none,top:=m.top }) (w:=w') (w':=w') (fun _ _ h=>h) (fun _ h=>h) (fun _ _ _=>rfl) hrep
  · rcases hb with hb | hb
    · exact .inl (hR'.rk b hb)
    · exact .inr hb
  · rcases hb with hb | ⟨id,B,d,lim,hB,hm⟩
    · exact hR'.kl b hb
    · exact hR'.lt hB hm
theorem XbV {G:Xh} {id e:Nat} {cs ds:List PV} {L:List (Nat × Blk)} (h:Has G ((id,⟨cs,e,true⟩)::L)) (eq:cs=ds):Has G ((id,⟨ds,e,true⟩)::L):=eq ▸ h
theorem Xnl (l:List Int):(l.map I).all XV=true:=List.all_eq_true.2 fun c hc=>by
  obtain ⟨x,_,rfl⟩:=List.mem_map.1 hc
  rfl
def XlT (l:List Int):PV:=.tr (l.map I) l.length 1
theorem XfM (l:List Int):Xi (XlT l):=Xi.tr fun c hc=>by
  obtain ⟨x,_,rfl⟩:=List.mem_map.1 hc
  exact Xe x
end Go.Proofs.YtlcphjcpoinolaaGreat
