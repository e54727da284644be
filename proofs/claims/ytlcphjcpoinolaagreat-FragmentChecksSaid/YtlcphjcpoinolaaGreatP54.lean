/- Part of the proof: the walk over the program and its laws: Fr Rd Pq Fj Ps Sy Sz. -/
import Derived.WalkKit
import Derived.ProofKit
import Derived.OpenShut
import Derived.Below
import Derived.ChangeSame
import Derived.ShutString
import Derived.Deep.Slices
import Derived.Deep.Fields
import Derived.Test.YtlcphjcpoinolaaGreatRows
import Derived.JoinedOf
import Derived.Test.YtlcphjcpoinolaaGreatChecked
import Derived.WideKeyArgs
import Derived.Test.YtlcphjcpoinolaaGreatP0
import Derived.Test.YtlcphjcpoinolaaGreatP2
import Derived.Test.YtlcphjcpoinolaaGreatP49
import Derived.Test.YtlcphjcpoinolaaGreatP42
import Derived.Test.YtlcphjcpoinolaaGreatP53
import Derived.Test.YtlcphjcpoinolaaGreatP34
import Derived.Test.YtlcphjcpoinolaaGreatP18
set_option linter.unusedVariables false
namespace Go.Proofs.YtlcphjcpoinolaaGreat
open Go.ChangeShapes Go.WideShapes Go.ChangeAt Go.RowKit Go.Th
def mW (w:World):Mp:=⟨fun _=>none,fun b=>b < w.heap.size,fun b=>b < w.heap.size,0⟩
theorem XwQ {w:World} {a:Addr} {v:Value} (h:w.cell? a=some v):a.block < w.heap.size∧a.spot=none:=by
  unfold World.cell? at h
  cases hh:w.heap[a.block]? with
  | none=>rw [hh] at h;simp at h
  | some o =>
    refine ⟨(Array.getElem?_eq_some_iff.1 hh).1,?_⟩
    rw [hh] at h
    cases o with
    | cells c e fr =>
      simp only at h
      cases hs:a.spot with
      | none=>rfl
      | some x=>rw [hs] at h;simp at h
    | _=>simp at h
theorem Xuo {α:Type} {enc:α→List PV} {sz:Nat} (henc:∀ x,(enc x).length=sz) (hsz:0 < sz) {w:World} {a:Addr} {len cap:Nat} (h1:len≤cap) (h2:cap≤maxLen)
    (hx:∀ i,i < len→∃ x:α,∀ (j:Nat) (c:PV),(enc x)[j]?=some c→∃ v,w.cell? (a.add (i * sz+j))=some v∧Rep (mW w) w c v) :
    ∃ l:List α,l.length=len∧Rep (mW w) w (.tr (l.flatMap enc) len sz) (.slice (some a) len cap):=by
  cases Nat.eq_zero_or_pos len with
  | inl h0=>subst h0;exact ⟨[],rfl,.tr0 a h2⟩
  | inr hp =>
    obtain ⟨x0,hx0⟩:=hx 0 hp
    have hall:∀ i,∃ x:α,i < len→∀ (j:Nat) (c:PV),(enc x)[j]?=some c→∃ v,w.cell? (a.add (i * sz+j))=some v∧Rep (mW w) w c v:=fun i=>by
      by_cases h:i < len
      · obtain ⟨x,hx⟩:=hx i h;exact ⟨x,fun _=>hx⟩
      · exact ⟨x0,fun h'=>absurd h' h⟩
    obtain ⟨X,hX⟩:=Classical.axiomOfChoice hall
    have hlen:((List.range len).map X).length=len:=by simp
    have hfl:(((List.range len).map X).flatMap enc).length=len * sz:=by rw [XgW henc,hlen]
    have key:∀ (j:Nat) (c:PV),(((List.range len).map X).flatMap enc)[j]?=some c→∃ v,w.cell? (a.add j)=some v∧Rep (mW w) w c v:=fun j c hj=>by
      have hjl:j < len * sz:=by rw [← hfl];exact (List.getElem?_eq_some_iff.1 hj).1
      have hi:j / sz < len:=by rw [Nat.div_lt_iff_lt_mul hsz];exact hjl
      have hr:j % sz < sz:=Nat.mod_lt _ hsz
      have he:j / sz * sz+j % sz=j:=Nat.div_add_mod' j sz
      have hat:=Xp henc ((List.range len).map X) (j / sz) (X (j / sz)) (by simp [hi])
      obtain ⟨_,e⟩:=(Xao _ _ _).1 hat
      have hc:(enc (X (j / sz)))[j % sz]?=some c:=by
        rw [e,List.getElem?_take,if_pos hr,List.getElem?_drop,he];exact hj
      obtain ⟨v,v1,v2⟩:=hX (j / sz) hi (j % sz) c hc
      rw [he] at v1
      exact ⟨v,v1,v2⟩
    obtain ⟨c0,hc0⟩:∃ c,(((List.range len).map X).flatMap enc)[0]?=some c:=⟨_,List.getElem?_eq_getElem (by rw [hfl];exact Nat.mul_pos hp hsz)⟩
    obtain ⟨v0,u1,_⟩:=key 0 c0 hc0
    have hlt:=XwQ u1
    simp only [Addr.add,if_true] at hlt
    obtain ⟨b,o,s⟩:=a
    obtain ⟨hb,rfl⟩:=hlt
    have hadd:∀ j,(Addr.mk b o none).add j=Addr.mk b (o+j) none:=fun j=>by
      unfold Addr.add
      split
      · rename_i e;subst e;rfl
      · rfl
    refine ⟨(List.range len).map X,hlen,.tr (fun j=>(w.cell? ⟨b,o+j,none⟩).getD undef) hb (by rw [hfl]) h1 h2 (fun j c hj=>?_) (fun j c hj=>?_)⟩
    · obtain ⟨v,v1,_⟩:=key j c hj
      rw [hadd] at v1
      rw [v1];rfl
    · obtain ⟨v,v1,v2⟩:=key j c hj
      rw [hadd] at v1
      simp only [v1,Option.getD_some];exact v2
section
variable {H:Type} {tok:TypeId × Value→H} {P:Program} {w:World} {base:Nat} {spare:Nat→Bool} {held:Bool}
end
section
variable {H:Type} {enc:TypeId × Value→H} {P:Program}
theorem XiN {f:Func} {s:ChangeSpec} {apart fresh handsOn again:Bool} {W W':World} {args:Array Value} {v:Value} {ds gs:List (DataW H)} {before pa pv:List MemPlace}
    (hW:DataW.Whole enc P f.params.toList s.vars apart W args.toList ds gs before)
    (hres:∀ (b:Nat) (sp:Nat→Bool) (hd:Bool),DataW.TrodAll enc P W' b sp hd f.resultTypes.toList (v.resultList f.resultTypes.size) (s.fn H (ds++gs)).results [])
    (hargs:∀ sp:Nat→Bool,(∀ p ∈ before,sp p.block=true)→DataW.TrodAll enc P W' 0 sp true f.params.toList args.toList (s.fn H (ds++gs)).args pa)
    (hvars:∀ sp:Nat→Bool,(∀ p ∈ before,sp p.block=true)→DataW.TrodVars enc P W' sp s.vars (s.fn H (ds++gs)).vars pv)
    (hps:before=pa++pv) (hb:Below W.heap.size W W')
    (hok:∀ (j:Nat) (t:TypeId) (r:Value),f.resultTypes[j]?=some t→(v.resultList f.resultTypes.size)[j]?=some r→Value.okWide P W' .any 0 t r) :
    s.post enc P f apart fresh handsOn again W args v W':=by
  have hlt:∀ p ∈ before,p.block < W.heap.size:=fun p hp=>hW.lt p hp
  have hold:∀ p ∈ before,(fun b=>decide (b < W.heap.size)) p.block=true:=fun p hp=>by simpa using hlt p hp
  refine ⟨ds,gs,before,[],pa,pv,hW,hres _ _ _,hargs _ hold,hvars _ hold,World.keptBut_mono (fun p hp=>⟨hp,?_⟩) (hb.frame (· ∈ before)),fun _=>?_⟩
  · rw [hps,List.mem_append] at hp
    exact Or.inr hp
  · obtain ⟨_,_,_,_,_,hz,hn⟩:=hW
    refine ⟨hok,_,_,([]++pa)++pv,⟨[]++pa,pv,trodAll_append (hargs _ (fun _ _=>rfl)) (hres _ _ _),hvars _ (fun _ _=>rfl),rfl,?_,?_⟩,?_⟩
    · intro b off hp
      have hin:MemPlace.cell b off ∈ before:=by rw [hps];simpa using hp
      rw [hb.frozen (hlt _ hin)]
      exact hz b off hin
    · intro ha
      have:=hn ha
      rw [hps] at this
      simpa using this
    · intro p hp _
      rw [hps]
      simpa using hp
end
theorem Xrz:ownKnob Tryz.prog.godebug=none:=by kernel_rfl
theorem Xpw {f:FuncId} {args:List PV} {vals:Array Value} {W:World} (h:Iso Tryz.prog f args (fun p=>p=.v (.bool true))) (hr:Xek (mW W) W args vals) :
    Calls Tryz.prog f vals W fun e W'=>e=.returned (.bool true)∧Below W.heap.size W W':=by
  refine (h.2 (mW W) W vals (fun b h=>h) (fun b h=>h) (fun _=>rfl) hr).mono ?_
  rintro e w' ⟨v,p,m',rfl,rfl,hv,_,hle,_,_⟩
  cases hv
  exact ⟨rfl,hle.os,hle.tape,hle.output,hle.size,fun k hk=>hle.same k hk⟩
theorem XrQ:laidOutB Tryz.prog=true:=by kernel_rfl
theorem Xkf {f:FuncId} {fn:Func} {b:Bool} (hf:Tryz.prog.funcs[f]?=some fn) (hn:(fn.name == "runtime.NumGoroutine")=false) (hb:fn.body.isNone=false)
    (h:∀ w,Calls Tryz.prog f #[] w fun e w'=>e=.returned (.bool b)∧Below w.heap.size w w'):Iso Tryz.prog f [] (fun p=>p=.v (.bool b)):=by
  refine ⟨⟨fn,hf,hn,hb⟩,fun m w vals h1 h2 h3 hr=>?_⟩
  obtain rfl:vals=#[]:=by
    have:=hr.1
    simpa using this
  refine (h w).mono ?_
  rintro e w' ⟨rfl,hb⟩
  exact ⟨.bool b,.v (.bool b),m,rfl,rfl,.v _ rfl,h3,⟨fun _ _ h=>h,fun _ h=>h,fun _ h=>h,fun k hk=>hb.5 k (h2 k hk),hb.size,hb.os,hb.tape,hb.output,fun _ h=>.inl h,rfl,fun _ _=>rfl⟩,h1,fun b hk=>Nat.lt_of_lt_of_le (h2 b hk) hb.size⟩
end Go.Proofs.YtlcphjcpoinolaaGreat
namespace Go.Proofs.YtlcphjcpoinolaaGreat
open Go.ChangeShapes Go.WideShapes Go.ChangeAt Go.RowKit Go.Th
set_option maxRecDepth 20000
def CRo (m:Mp) (w:World) (o:Nat) (ps:List PV) (cs:List Value):Prop:=∀ (j:Nat) (c:PV),ps[j]?=some c→∃ v,cs[o+j]?=some v∧Rep m w c v
theorem Xct {m:Mp} {w:World} {o:Nat} {cs:List Value}:CRo m w o [] cs:=fun j c hj=>by simp at hj
theorem XR {m:Mp} {w:World} {o:Nat} {ps qs:List PV} {cs:List Value} (h:CRo m w o ps cs) (k:CRo m w (o+ps.length) qs cs):CRo m w o (ps++qs) cs:=fun j c hj=>by
  rcases Nat.lt_or_ge j ps.length with hlt | hge
  · rw [List.getElem?_append_left hlt] at hj;exact h j c hj
  · rw [List.getElem?_append_right hge] at hj
    obtain ⟨v,h1,h2⟩:=k _ c hj
    refine ⟨v,?_,h2⟩
    rw [← h1];congr 1;omega
theorem Xab {m:Mp} {w:World} {o s:Nat} {ps:List PV} {cs:List Value} (h:CR m w ps ((cs.drop o).take s)):CRo m w o ps cs:=fun j c hj=>by
  obtain ⟨v,h1,h2⟩:=h.2 j c hj
  rw [List.getElem?_take] at h1
  split at h1
  · rw [List.getElem?_drop] at h1;exact ⟨v,h1,h2⟩
  · cases h1
theorem XdO {m:Mp} {w:World} {ps:List PV} {cs:List Value} (hl:cs.length=ps.length) (h:CRo m w 0 ps cs):CR m w ps cs:=⟨hl,fun j c hj=>by
  obtain ⟨v,h1,h2⟩:=h j c hj
  exact ⟨v,by simpa using h1,h2⟩⟩
section
variable {H:Type} {tok:TypeId × Value→H} {w:World} {base:Nat} {spare:Nat→Bool} {held:Bool} {fuel:Nat} {cs:List Value} {x:DataW H × List MemPlace}
theorem Xfa {α:Type} {enc:α→List PV} {sz:Nat} (henc:∀ x,(enc x).length=sz) (hsz:0 < sz) {t e:TypeId} (ht:Tryz.prog.underlying t=some (.slice e)) (hC:Tryz.prog.cellsOf e=sz)
    (h:DataW.trod tok Tryz.prog w base spare held fuel t cs=some x)
    (build:∀ n cs' y,n < fuel→DataW.trod tok Tryz.prog w base spare held n e cs'=some y→∃ a:α,CR (mW w) w (enc a) cs'):∃ l:List α,CR (mW w) w [XaE enc sz l] cs:=by
  have one:∀ (p:PV) (v:Value),Rep (mW w) w p v→CR (mW w) w [p] [v]:=fun p v hr=>⟨rfl,fun j c hj=>by
    cases j with
    | zero=>simp at hj;subst hj;exact ⟨v,rfl,hr⟩
    | succ j=>simp at hj⟩
  rcases DataW.trod_slice ht h with ⟨rfl,_⟩ | ⟨a,len,cap,elems,rest,n,rfl,rfl,_,_,hl,hm,hlen,hel,_,_⟩
  · exact ⟨[],one _ _ .trn⟩
  · obtain ⟨l,hll,hr⟩:=Xuo (w:=w) (a:=a) henc hsz hl hm (fun i hil=>by
      have h1:=hel i hil
      rw [hC] at h1
      obtain ⟨y,hy⟩:∃ y,elems[i]?=some y:=⟨_,List.getElem?_eq_getElem (by omega)⟩
      rw [hy] at h1
      obtain ⟨cs',hc,ht'⟩:=Option.bind_eq_some_iff.1 h1
      obtain ⟨_,hcl,hat⟩:=World.cells?_some hc
      obtain ⟨b,hb⟩:=build n cs' y (Nat.lt_succ_self n) ht'
      refine ⟨b,fun j c hj=>?_⟩
      obtain ⟨v,hv,hrv⟩:=hb.2 j c hj
      have hjs:j < sz:=by rw [← henc b];exact (List.getElem?_eq_some_iff.1 hj).1
      refine ⟨v,?_,hrv⟩
      have:=hat j hjs
      rw [Go.Deep.add_add] at this
      rw [this];exact hv)
    subst hll
    exact ⟨l,one _ _ hr⟩
theorem Xbw (h:DataW.trod tok Tryz.prog w base spare held fuel 3 cs=some x):∃ n,CR (mW w) w [I n] cs:=by
  obtain ⟨n,rfl,_,_⟩:=DataW.trod_int Tryz.underlying3 h
  exact ⟨n,rfl,fun j c hj=>by
    cases j with
    | zero=>simp at hj;subst hj;exact ⟨_,rfl,.v _ rfl⟩
    | succ j=>simp at hj⟩
theorem Xuv (h:DataW.trod tok Tryz.prog w base spare held fuel 4 cs=some x):∃ b,CR (mW w) w [B b] cs:=by
  obtain ⟨n,rfl,_⟩:=DataW.trod_bool Tryz.underlying4 h
  exact ⟨n,rfl,fun j c hj=>by
    cases j with
    | zero=>simp at hj;subst hj;exact ⟨_,rfl,.v _ rfl⟩
    | succ j=>simp at hj⟩
theorem XoY (h:DataW.trod tok Tryz.prog w base spare held fuel 9 cs=some x):∃ s,CR (mW w) w [S s] cs:=by
  obtain ⟨n,rfl,_⟩:=DataW.trod_string Tryz.underlying9 h
  exact ⟨n,rfl,fun j c hj=>by
    cases j with
    | zero=>simp at hj;subst hj;exact ⟨_,rfl,.v _ rfl⟩
    | succ j=>simp at hj⟩
theorem Xyv (h:DataW.trod tok Tryz.prog w base spare held fuel 183 cs=some x):∃ a,CR (mW w) w (XaL a) cs:=by
  obtain ⟨xs,n,rfl,_,hl,hxs,hf⟩:=DataW.trod_struct Tryz.underlying183 h
  have hl:cs.length=2:=hl.trans (by kernel_rfl)
  have hxs:xs.length=2:=hxs
  obtain ⟨a0,e0⟩:=Xbw ((hf 0 _ rfl).trans (List.getElem?_eq_getElem (by omega)))
  obtain ⟨a1,e1⟩:=Xbw ((hf 1 _ rfl).trans (List.getElem?_eq_getElem (by omega)))
  refine ⟨⟨a0,a1⟩,XdO hl (by exact XR (Xab e0) (XR (Xab e1) (Xct)))⟩
theorem XBl (h:DataW.trod tok Tryz.prog w base spare held fuel 199 cs=some x):∃ a,CR (mW w) w (XcA a) cs:=by
  obtain ⟨xs,n,rfl,_,hl,hxs,hf⟩:=DataW.trod_struct Tryz.underlying199 h
  have hl:cs.length=2:=hl.trans (by kernel_rfl)
  have hxs:xs.length=2:=hxs
  obtain ⟨a0,e0⟩:=Xbw ((hf 0 _ rfl).trans (List.getElem?_eq_getElem (by omega)))
  obtain ⟨a1,e1⟩:=Xbw ((hf 1 _ rfl).trans (List.getElem?_eq_getElem (by omega)))
  refine ⟨⟨a0,a1⟩,XdO hl (by exact XR (Xab e0) (XR (Xab e1) (Xct)))⟩
theorem Xyw (h:DataW.trod tok Tryz.prog w base spare held fuel 203 cs=some x):∃ a,CR (mW w) w (Xaw a) cs:=by
  obtain ⟨xs,n,rfl,_,hl,hxs,hf⟩:=DataW.trod_struct Tryz.underlying203 h
  have hl:cs.length=4:=hl.trans (by kernel_rfl)
  have hxs:xs.length=4:=hxs
  obtain ⟨a0,e0⟩:=Xbw ((hf 0 _ rfl).trans (List.getElem?_eq_getElem (by omega)))
  obtain ⟨a1,e1⟩:=Xbw ((hf 1 _ rfl).trans (List.getElem?_eq_getElem (by omega)))
  obtain ⟨a2,e2⟩:=Xbw ((hf 2 _ rfl).trans (List.getElem?_eq_getElem (by omega)))
  obtain ⟨a3,e3⟩:=Xuv ((hf 3 _ rfl).trans (List.getElem?_eq_getElem (by omega)))
  refine ⟨⟨a0,a1,a2,a3⟩,XdO hl (by exact XR (Xab e0) (XR (Xab e1) (XR (Xab e2) (XR (Xab e3) (Xct)))))⟩
theorem Xrw (x:Prp):(XaL x).length=2:=rfl
theorem XwA (x:Dl):(XcA x).length=2:=rfl
theorem XrI (x:Lyr):(Xaw x).length=4:=rfl
theorem Xo0 (h:DataW.trod tok Tryz.prog w base spare held fuel 37 cs=some x):∃ l,CR (mW w) w [XaE XaL 2 l] cs :=
  Xfa Xrw (by omega) Tryz.underlying37 (by kernel_rfl) h fun n cs' y _ hy=>Xyv hy
theorem Xyy (h:DataW.trod tok Tryz.prog w base spare held fuel 38 cs=some x):∃ l,CR (mW w) w [XaE XcA 2 l] cs :=
  Xfa XwA (by omega) Tryz.underlying38 (by kernel_rfl) h fun n cs' y _ hy=>XBl hy
theorem Xuw (h:DataW.trod tok Tryz.prog w base spare held fuel 39 cs=some x):∃ l,CR (mW w) w [XaE Xaw 4 l] cs :=
  Xfa XrI (by omega) Tryz.underlying39 (by kernel_rfl) h fun n cs' y _ hy=>Xyw hy
theorem Xrp (h:DataW.trod tok Tryz.prog w base spare held fuel 41 cs=some x):∃ (i m:Int) (d:List Dl) (l:List Lyr),CR (mW w) w [I i,I m,Xm d,Xl l] cs:=by
  obtain ⟨xs,n,rfl,_,hl,hxs,hf⟩:=DataW.trod_struct Tryz.underlying41 h
  have hl:cs.length=4:=hl.trans (by kernel_rfl)
  have hxs:xs.length=4:=hxs
  obtain ⟨a0,e0⟩:=Xbw ((hf 0 _ rfl).trans (List.getElem?_eq_getElem (by omega)))
  obtain ⟨a1,e1⟩:=Xbw ((hf 1 _ rfl).trans (List.getElem?_eq_getElem (by omega)))
  obtain ⟨a2,e2⟩:=Xyy ((hf 2 _ rfl).trans (List.getElem?_eq_getElem (by omega)))
  obtain ⟨a3,e3⟩:=Xuw ((hf 3 _ rfl).trans (List.getElem?_eq_getElem (by omega)))
  refine ⟨a0,a1,a2,a3,XdO hl (by exact XR (Xab e0) (XR (Xab e1) (XR (Xab e2) (XR (Xab e3) (Xct)))))⟩
theorem Xlc (h:DataW.trod tok Tryz.prog w base spare held fuel 43 cs=some x):∃ h,CR (mW w) w (XL h) cs:=by
  obtain ⟨xs,n,rfl,_,hl,hxs,hf⟩:=DataW.trod_struct Tryz.underlying43 h
  have hl:cs.length=5:=hl.trans (by kernel_rfl)
  have hxs:xs.length=2:=hxs
  obtain ⟨a0,e0⟩:=Xo0 ((hf 0 _ rfl).trans (List.getElem?_eq_getElem (by omega)))
  obtain ⟨a1,a2,a3,a4,e1⟩:=Xrp ((hf 1 _ rfl).trans (List.getElem?_eq_getElem (by omega)))
  refine ⟨⟨a0,a1,a2,a3,a4⟩,XdO hl (by exact XR (Xab e0) (XR (Xab e1) (Xct)))⟩
theorem Xrt (h:DataW.trod tok Tryz.prog w base spare held fuel 127 cs=some x):∃ a,CR (mW w) w (Xax a) cs:=by
  obtain ⟨xs,n,rfl,_,hl,hxs,hf⟩:=DataW.trod_struct Tryz.underlying127 h
  have hl:cs.length=4:=hl.trans (by kernel_rfl)
  have hxs:xs.length=4:=hxs
  obtain ⟨a0,e0⟩:=Xbw ((hf 0 _ rfl).trans (List.getElem?_eq_getElem (by omega)))
  obtain ⟨a1,e1⟩:=Xbw ((hf 1 _ rfl).trans (List.getElem?_eq_getElem (by omega)))
  obtain ⟨a2,e2⟩:=XoY ((hf 2 _ rfl).trans (List.getElem?_eq_getElem (by omega)))
  obtain ⟨a3,e3⟩:=Xbw ((hf 3 _ rfl).trans (List.getElem?_eq_getElem (by omega)))
  refine ⟨⟨a0,a1,a2,a3⟩,XdO hl (by exact XR (Xab e0) (XR (Xab e1) (XR (Xab e2) (XR (Xab e3) (Xct)))))⟩
theorem XnH (x:Level):(Xax x).length=4:=rfl
theorem Xo1 (h:DataW.trod tok Tryz.prog w base spare held fuel 101 cs=some x):∃ l,CR (mW w) w [XaE Xax 4 l] cs :=
  Xfa XnH (by omega) Tryz.underlying101 (by kernel_rfl) h fun n cs' y _ hy=>Xrt hy
theorem Xyx (h:DataW.trod tok Tryz.prog w base spare held fuel 103 cs=some x):∃ a,CR (mW w) w (Xae a) cs:=by
  obtain ⟨xs,n,rfl,_,hl,hxs,hf⟩:=DataW.trod_struct Tryz.underlying103 h
  have hl:cs.length=2:=hl.trans (by kernel_rfl)
  have hxs:xs.length=2:=hxs
  obtain ⟨a0,e0⟩:=Xbw ((hf 0 _ rfl).trans (List.getElem?_eq_getElem (by omega)))
  obtain ⟨a1,e1⟩:=Xo1 ((hf 1 _ rfl).trans (List.getElem?_eq_getElem (by omega)))
  refine ⟨⟨a0,a1⟩,XdO hl (by exact XR (Xab e0) (XR (Xab e1) (Xct)))⟩
theorem XrK (x:Lst):(Xae x).length=2:=rfl
theorem Xux (h:DataW.trod tok Tryz.prog w base spare held fuel 24 cs=some x):∃ l,CR (mW w) w [XaE Xae 2 l] cs :=
  Xfa XrK (by omega) Tryz.underlying24 (by kernel_rfl) h fun n cs' y _ hy=>Xyx hy
theorem Xrs (h:DataW.trod tok Tryz.prog w base spare held fuel 100 cs=some x):∃ a,CR (mW w) w (Xt a) cs:=by
  obtain ⟨xs,n,rfl,_,hl,hxs,hf⟩:=DataW.trod_struct Tryz.underlying100 h
  have hl:cs.length=6:=hl.trans (by kernel_rfl)
  have hxs:xs.length=6:=hxs
  obtain ⟨a0,e0⟩:=Xbw ((hf 0 _ rfl).trans (List.getElem?_eq_getElem (by omega)))
  obtain ⟨a1,e1⟩:=Xbw ((hf 1 _ rfl).trans (List.getElem?_eq_getElem (by omega)))
  obtain ⟨a2,e2⟩:=XoY ((hf 2 _ rfl).trans (List.getElem?_eq_getElem (by omega)))
  obtain ⟨a3,e3⟩:=Xbw ((hf 3 _ rfl).trans (List.getElem?_eq_getElem (by omega)))
  obtain ⟨a4,e4⟩:=Xbw ((hf 4 _ rfl).trans (List.getElem?_eq_getElem (by omega)))
  obtain ⟨a5,e5⟩:=Xo0 ((hf 5 _ rfl).trans (List.getElem?_eq_getElem (by omega)))
  refine ⟨⟨a0,a1,a2,a3,a4,a5⟩,XdO hl (by exact XR (Xab e0) (XR (Xab e1) (XR (Xab e2) (XR (Xab e3) (XR (Xab e4) (XR (Xab e5) (Xct)))))))⟩
theorem Xnj (x:Style):(Xt x).length=6:=rfl
theorem XoZ (h:DataW.trod tok Tryz.prog w base spare held fuel 23 cs=some x):∃ l,CR (mW w) w [XaE Xt 6 l] cs :=
  Xfa Xnj (by omega) Tryz.underlying23 (by kernel_rfl) h fun n cs' y _ hy=>Xrs hy
end
section
variable {H:Type} {tok:TypeId × Value→H} {w:World} {base:Nat} {spare:Nat→Bool} {held:Bool}
abbrev RdI (tok:TypeId × Value→H) (w:World) (base:Nat) (spare:Nat→Bool) (held:Bool) (fuel:Nat):Prop:=∀ (cs:List Value) (x:DataW H × List MemPlace),DataW.trod tok Tryz.prog w base spare held fuel 22 cs=some x→∃ l,CR (mW w) w [Xh l] cs
theorem Xuu {fuel:Nat} {cs:List Value} {x:DataW H × List MemPlace} (IH:∀ m,m < fuel→RdI tok w base spare held m) (h:DataW.trod tok Tryz.prog w base spare held fuel 96 cs=some x):∃ a,CR (mW w) w (XA a) cs:=by
  obtain ⟨xs,n,rfl,_,hl,hxs,hf⟩:=DataW.trod_struct Tryz.underlying96 h
  have hl:cs.length=7:=hl.trans (by kernel_rfl)
  have hxs:xs.length=3:=hxs
  obtain ⟨a0,e0⟩:=Xbw ((hf 0 _ rfl).trans (List.getElem?_eq_getElem (by omega)))
  obtain ⟨a1,e1⟩:=Xlc ((hf 1 _ rfl).trans (List.getElem?_eq_getElem (by omega)))
  obtain ⟨a2,e2⟩:=IH n (by omega) _ _ ((hf 2 _ rfl).trans (List.getElem?_eq_getElem (by omega)))
  refine ⟨.mk a0 a1 a2,XdO (hl.trans ((Xai _).symm)) (by rw [XW];exact XR (Xab e0) (XR (Xab e1) (XR (Xab e2) (Xct))))⟩
theorem Xrr {fuel:Nat} {cs:List Value} {x:DataW H × List MemPlace} (IH:∀ m,m < fuel→RdI tok w base spare held m) (h:DataW.trod tok Tryz.prog w base spare held fuel 92 cs=some x):∃ l,CR (mW w) w [Xak l] cs :=
  Xfa Xai (by omega) Tryz.underlying92 (by kernel_rfl) h fun n cs' y hn hy=>Xuu (fun m hm=>IH m (by omega)) hy
theorem Xur {fuel:Nat} {cs:List Value} {x:DataW H × List MemPlace} (IH:∀ m,m < fuel→RdI tok w base spare held m) (h:DataW.trod tok Tryz.prog w base spare held fuel 94 cs=some x):∃ a,CR (mW w) w (XT a) cs:=by
  obtain ⟨xs,n,rfl,_,hl,hxs,hf⟩:=DataW.trod_struct Tryz.underlying94 h
  have hl:cs.length=6:=hl.trans (by kernel_rfl)
  have hxs:xs.length=2:=hxs
  obtain ⟨a0,e0⟩:=Xlc ((hf 0 _ rfl).trans (List.getElem?_eq_getElem (by omega)))
  obtain ⟨a1,e1⟩:=Xrr (fun m hm=>IH m (by omega)) ((hf 1 _ rfl).trans (List.getElem?_eq_getElem (by omega)))
  refine ⟨.mk a0 a1,XdO (hl.trans ((Xaq _).symm)) (by rw [X0];exact XR (Xab e0) (XR (Xab e1) (Xct)))⟩
theorem Xuq {fuel:Nat} {cs:List Value} {x:DataW H × List MemPlace} (IH:∀ m,m < fuel→RdI tok w base spare held m) (h:DataW.trod tok Tryz.prog w base spare held fuel 44 cs=some x):∃ l,CR (mW w) w [XD l] cs :=
  Xfa Xaq (by omega) Tryz.underlying44 (by kernel_rfl) h fun n cs' y hn hy=>Xur (fun m hm=>IH m (by omega)) hy
theorem Xus {fuel:Nat} {cs:List Value} {x:DataW H × List MemPlace} (IH:∀ m,m < fuel→RdI tok w base spare held m) (h:DataW.trod tok Tryz.prog w base spare held fuel 46 cs=some x):∃ a,CR (mW w) w (Xo a) cs:=by
  obtain ⟨xs,n,rfl,_,hl,hxs,hf⟩:=DataW.trod_struct Tryz.underlying46 h
  have hl:cs.length=11:=hl.trans (by kernel_rfl)
  have hxs:xs.length=7:=hxs
  obtain ⟨a0,e0⟩:=Xbw ((hf 0 _ rfl).trans (List.getElem?_eq_getElem (by omega)))
  obtain ⟨a1,e1⟩:=Xbw ((hf 1 _ rfl).trans (List.getElem?_eq_getElem (by omega)))
  obtain ⟨a2,e2⟩:=Xbw ((hf 2 _ rfl).trans (List.getElem?_eq_getElem (by omega)))
  obtain ⟨a3,e3⟩:=XoY ((hf 3 _ rfl).trans (List.getElem?_eq_getElem (by omega)))
  obtain ⟨a4,e4⟩:=Xlc ((hf 4 _ rfl).trans (List.getElem?_eq_getElem (by omega)))
  obtain ⟨a5,e5⟩:=IH n (by omega) _ _ ((hf 5 _ rfl).trans (List.getElem?_eq_getElem (by omega)))
  obtain ⟨a6,e6⟩:=Xuq (fun m hm=>IH m (by omega)) ((hf 6 _ rfl).trans (List.getElem?_eq_getElem (by omega)))
  refine ⟨.mk a0 a1 a2 a3 a4 a5 a6,XdO (hl.trans ((X4 _).symm)) (by rw [XG];exact XR (Xab e0) (XR (Xab e1) (XR (Xab e2) (XR (Xab e3) (XR (Xab e4) (XR (Xab e5) (XR (Xab e6) (Xct))))))))⟩
theorem Xrq:∀ fuel,RdI tok w base spare held fuel:=by
  intro fuel
  induction fuel using Nat.strongRecOn with
  | _ fuel ih =>
    intro cs x h
    exact Xfa X4 (by omega) Tryz.underlying22 (by kernel_rfl) h fun n cs' y hn hy=>Xus (fun m hm=>ih m (by omega)) hy
variable {fuel:Nat} {cs:List Value} {x:DataW H × List MemPlace}
theorem Xut (h:DataW.trod tok Tryz.prog w base spare held fuel 26 cs=some x):∃ l st ls,CR (mW w) w (XfM l st ls) cs:=by
  obtain ⟨xs,n,rfl,_,hl,hxs,hf⟩:=DataW.trod_struct Tryz.underlying26 h
  have hl:cs.length=3:=hl.trans (by kernel_rfl)
  have hxs:xs.length=3:=hxs
  obtain ⟨a0,e0⟩:=Xrq _ _ _ ((hf 0 _ rfl).trans (List.getElem?_eq_getElem (by omega)))
  obtain ⟨a1,e1⟩:=XoZ ((hf 1 _ rfl).trans (List.getElem?_eq_getElem (by omega)))
  obtain ⟨a2,e2⟩:=Xux ((hf 2 _ rfl).trans (List.getElem?_eq_getElem (by omega)))
  exact ⟨a0,a1,a2,XdO hl (by exact XR (Xab e0) (XR (Xab e1) (XR (Xab e2) (Xct))))⟩
end
end Go.Proofs.YtlcphjcpoinolaaGreat
namespace Go.Proofs.YtlcphjcpoinolaaGreat
open Go.RowKit Go.Th
set_option maxRecDepth 20000
theorem XgY:∀ {l:List Int},XaG l=0→∀ x ∈ l,x=0
  | [],_,x,hx=>by simp at hx
  | e::l,h,x,hx=>by
    rw [XaG] at h
    by_cases he:e=0
    · rw [if_pos he] at h
      rcases List.mem_cons.1 hx with e1 | hx
      · rw [e1];exact he
      · exact XgY h x hx
    · rw [if_neg he] at h;exact absurd h he
theorem Xnb {b:Bool} {e:Int} (he:e≠0) (h:XbO b e=0):b=false:=by
  cases b with
  | false=>rfl
  | true=>exact absurd h he
theorem XgT {s:CkS} (hs:∀ k,s.revs k=false) {e0:Int} {h:Head} (hh:XcO s e0 h=0):XcU h:=by
  unfold XcO at hh
  by_cases h1:XcB e0 h.props=0
  rotate_left
  · rw [if_neg h1] at hh;exact absurd hh h1
  rw [if_pos h1] at hh
  by_cases h2:XjZ s h.props=0
  rotate_left
  · rw [if_neg h2] at hh;exact absurd hh h2
  rw [if_pos h2] at hh
  by_cases h3:h.ins=0
  rotate_left
  · rw [if_pos ⟨h3,hs _⟩] at hh;cases hh
  rw [if_neg (fun k=>k.1 h3)] at hh
  split at hh
  · cases hh
  split at hh
  · cases hh
  unfold Xff at hh
  split at hh
  rotate_left
  · cases hh
  by_cases h4:Xsh s none h.dels=0
  rotate_left
  · rw [if_neg h4] at hh;exact absurd hh h4
  rw [if_pos h4] at hh
  split at hh
  · cases hh
  refine ⟨h3,?_,?_⟩
  · cases hc:h.dels with
    | nil=>rfl
    | cons d l=>rw [hc,XkA,if_pos (hs _)] at h4;cases h4
  · cases hc:h.lyrs with
    | nil=>rfl
    | cons y l =>
      rw [hc,List.length_cons] at hh
      unfold Xl0 at hh
      rw [Xqt] at hh
      have e:Xs7 s e0 (y::l) 0=22:=by
        unfold Xs7
        rw [List.getElem?_cons_zero]
        exact if_pos (hs _)
      rw [e] at hh
      cases hh
theorem XnX {k code i:Int} {t:ByteArray} {nf nr:Nat} (h:Xbt k code i t nf nr=0):(k≠6→nf=0)∧(k≠7→nr=0)∧(k=1→t.size≠0):=by
  unfold Xbt at h
  split at h
  · cases h
  split at h
  · cases h
  split at h
  · cases h
  rename_i hb
  unfold Xiv at hb
  split at hb
  · exact absurd rfl hb
  split at hb
  · exact absurd rfl hb
  split at hb
  · exact absurd rfl hb
  split at hb
  · exact absurd rfl hb
  rename_i h6
  rw [decide_eq_true_iff] at hb
  refine ⟨fun k6=>?_,fun k7=>?_,fun k1=>?_⟩
  · by_cases e:nf=0
    · exact e
    · exact absurd ⟨k6,by omega⟩ h6
  · by_cases e:nr=0
    · exact e
    · exact absurd ⟨k7,by omega⟩ hb
  · intro e
    unfold Xd8 at h
    split at h
    · cases h
    rw [if_pos ⟨.inl k1,(Xms _ _).2 (ByteArray.ext (Array.eq_empty_of_size_eq_zero e))⟩] at h
    cases h
theorem Xfy {s s':CkS} (h:Xcp s s') (hs:∀ k,s.revs k=false):∀ k,s'.revs k=false:=fun k=>by rw [h.1.2.2.1];exact hs k
mutual
theorem XnO:∀ (x:Item) (p:Plc) (s:CkS),(∀ k,s.revs k=false)→(Xda x p s).1=0→hdI XcU x∧XpH x
  | .mk k code i t h f r,p,s,hs,h0=>by
    have hs2:=Xfy ((Xht s 1).trans (Xj3 k i t p (XjE s 1))) hs
    rw [Xda] at h0
    by_cases h1:Xbt k code i t f.length r.length=0
    rotate_left
    · rw [if_neg h1] at h0;exact absurd h0 h1
    rw [if_pos h1] at h0
    by_cases h2:(XdZ k i t p (XjE s 1)).1=0
    rotate_left
    · rw [if_neg h2] at h0;exact absurd h0 h2
    rw [if_pos h2] at h0
    generalize (XdZ k i t p (XjE s 1)).2=s2 at h0 hs2
    by_cases h3:XcO s2 k h=0
    rotate_left
    · rw [if_neg h3] at h0;exact absurd h0 h3
    rw [if_pos h3] at h0
    have hb:=XgT hs2 h3
    obtain ⟨g1,g2,g3⟩:=XnX h1
    rw [hdI,XpH]
    by_cases k6:k=6
    · rw [if_pos k6] at h0
      have hf:=Xdy f _ s2 hs2 h0
      have hr:r=[]:=List.length_eq_zero_iff.1 (g2 (by omega))
      subst hr
      exact ⟨⟨hb,hf.1,by rw [XkW];trivial⟩,fun e=>absurd e (by omega),fun e=>absurd e (by omega),hf.2,by rw [Xd6];trivial⟩
    · have hf:f=[]:=List.length_eq_zero_iff.1 (g1 k6)
      subst hf
      rw [if_neg k6] at h0
      by_cases k7:k=7
      · rw [if_pos k7] at h0
        have hr:=Xnr r _ s2 hs2 h0
        exact ⟨⟨hb,by rw [Xcw];trivial,hr.2.1⟩,fun _=>hr.1,fun e=>absurd e (by omega),by rw [XbV];trivial,hr.2.2⟩
      · have hr:r=[]:=List.length_eq_zero_iff.1 (g2 k7)
        subst hr
        exact ⟨⟨hb,by rw [Xcw];trivial,by rw [XkW];trivial⟩,fun e=>absurd e k7,g3,by rw [XbV];trivial,by rw [Xd6];trivial⟩
theorem Xnr:∀ (l:List Row) (p:Plc) (s:CkS),(∀ k,s.revs k=false)→(Xe8 l p s).1=0→l≠[]∧XkW XcU l∧Xd6 l
  | [],_,s,hs,h0=>by rw [Xe8] at h0;cases h0
  | x::l,p,s,hs,h0=>by
    rw [Xe8] at h0
    split at h0
    · cases h0
    by_cases h1:(XjX x p s).1=0
    rotate_left
    · rw [if_neg h1] at h0;exact absurd h0 h1
    rw [if_pos h1] at h0
    have a:=XjW x p s hs h1
    have b:=Xh3 l p _ (Xfy (Xe9 x p s) hs) h0
    obtain ⟨hd,cs⟩:=x
    rw [XkW,Xd6]
    exact ⟨by simp,⟨a.1,a.2.2.1,b.1⟩,a.2.1,a.2.2.2,b.2⟩
theorem Xdy:∀ (l:List Item) (p:Plc) (s:CkS),(∀ k,s.revs k=false)→(Xb5 l p s).1=0→Xcw XcU l∧XbV l
  | [],_,s,hs,h0=>by rw [Xcw,XbV];exact ⟨trivial,trivial⟩
  | x::l,p,s,hs,h0=>by
    rw [Xb5] at h0
    by_cases h1:(Xda x p s).1=0
    rotate_left
    · rw [if_neg h1] at h0;exact absurd h0 h1
    rw [if_pos h1] at h0
    have a:=XnO x p s hs h1
    have b:=Xdy l p _ (Xfy (XfE x p s) hs) h0
    rw [Xcw,XbV]
    exact ⟨⟨a.1,b.1⟩,a.2,b.2⟩
theorem XjW:∀ (x:Row) (p:Plc) (s:CkS),(∀ k,s.revs k=false)→(XjX x p s).1=0→(match x with | .mk h cs=>XcU h∧cs≠[]∧XmJ XcU cs∧XeJ cs)
  | .mk h cs,p,s,hs,h0=>by
    rw [XjX] at h0
    by_cases h1:XaG [XcO s 9 h,XbO (decide ((cs.length:Int)=0)) 11,XbO (decide ((32:Int) < cs.length)) 9]=0
    rotate_left
    · rw [if_neg h1] at h0;exact absurd h0 h1
    rw [if_pos h1] at h0
    have g:=XgY h1
    have a:=Xhm cs p s hs h0
    have c:=Xnb (by decide) (g (XbO (decide ((cs.length:Int)=0)) 11) (by simp))
    rw [decide_eq_false_iff_not] at c
    show XcU h∧cs≠[]∧XmJ XcU cs∧XeJ cs
    refine ⟨XgT hs (g (XcO s 9 h) (by simp)),?_,a.1,a.2⟩
    intro e
    subst e
    exact c rfl
theorem Xh3:∀ (l:List Row) (p:Plc) (s:CkS),(∀ k,s.revs k=false)→(Xfx l p s).1=0→XkW XcU l∧Xd6 l
  | [],_,s,hs,h0=>by rw [XkW,Xd6];exact ⟨trivial,trivial⟩
  | x::l,p,s,hs,h0=>by
    rw [Xfx] at h0
    by_cases h1:(XjX x p s).1=0
    rotate_left
    · rw [if_neg h1] at h0;exact absurd h0 h1
    rw [if_pos h1] at h0
    have a:=XjW x p s hs h1
    have b:=Xh3 l p _ (Xfy (Xe9 x p s) hs) h0
    obtain ⟨hd,cs⟩:=x
    rw [XkW,Xd6]
    exact ⟨⟨a.1,a.2.2.1,b.1⟩,a.2.1,a.2.2.2,b.2⟩
theorem Xoc:∀ (x:Cell) (p:Plc) (s:CkS),(∀ k,s.revs k=false)→(XfR x p s).1=0→(match x with | .mk _ h f=>XcU h∧Xcw XcU f∧XbV f)
  | .mk i h f,p,s,hs,h0=>by
    rw [XfR] at h0
    have hs2:=Xfy (XiZ s i) hs
    by_cases h1:idF s i=0
    rotate_left
    · rw [if_neg h1] at h0;exact absurd h0 h1
    rw [if_pos h1] at h0
    by_cases h2:XcO (idS s i) 10 h=0
    rotate_left
    · rw [if_neg h2] at h0;exact absurd h0 h2
    rw [if_pos h2] at h0
    exact ⟨XgT hs2 h2,Xdy f p _ hs2 h0⟩
theorem Xhm:∀ (l:List Cell) (p:Plc) (s:CkS),(∀ k,s.revs k=false)→(XdN l p s).1=0→XmJ XcU l∧XeJ l
  | [],_,s,hs,h0=>by rw [XmJ,XeJ];exact ⟨trivial,trivial⟩
  | x::l,p,s,hs,h0=>by
    rw [XdN] at h0
    by_cases h1:(XfR x p s).1=0
    rotate_left
    · rw [if_neg h1] at h0;exact absurd h0 h1
    rw [if_pos h1] at h0
    have a:=Xoc x p s hs h1
    have b:=Xhm l p _ (Xfy (Xit x p s) hs) h0
    obtain ⟨i,hd,f⟩:=x
    rw [XmJ,XeJ]
    exact ⟨⟨a.1,a.2.1,b.1⟩,a.2.2,b.2⟩
end
theorem Xsd {e1 e2:Int} {l:List Item} {st:List Style} {ls:List Lst} (h:Xte e1 e2 (Xc5 l st ls)=0):Xcw XcU l∧XbV l:=by
  unfold Xte at h
  split at h
  rotate_left
  · rename_i k;exact absurd h k
  split at h
  rotate_left
  · rename_i k;exact absurd h k
  split at h
  rotate_left
  · rename_i k;exact absurd h k
  rename_i k
  exact Xdy l _ _ (fun _=>rfl) k
theorem XeA:∀ (a b:List Item),Xw (a++b)=Xw a+Xw b
  | [],b=>by rw [List.nil_append,Xw];omega
  | x::a,b=>by rw [List.cons_append,Xw,Xw,XeA a b];omega
theorem Xi2 {A:Head→Prop}:∀ {a b:List Item},Xcw A a→Xcw A b→Xcw A (a++b)
  | [],b,_,h=>h
  | x::a,b,h,k=>by
    rw [Xcw] at h
    rw [List.cons_append,Xcw]
    exact ⟨h.1,Xi2 h.2 k⟩
theorem Xkk {A:Head→Prop}:∀ {a b:List Item},Xcw A (a++b)→Xcw A a∧Xcw A b
  | [],b,h=>⟨by rw [Xcw];trivial,h⟩
  | x::a,b,h=>by
    rw [List.cons_append,Xcw] at h
    rw [Xcw]
    have:=Xkk h.2
    exact ⟨⟨h.1,this.1⟩,this.2⟩
theorem Xps (y x:Item):XbG (XnL y x)≤XbG y+XbG x:=by
  obtain ⟨k,c,i,t,h,f,r⟩:=y
  obtain ⟨k2,c2,i2,t2,h2,f2,r2⟩:=x
  show XbG (.mk k c i (t++t2) h f r)≤_
  rw [XbG,XbG,XbG,ByteArray.size_append]
  omega
theorem XuQ {A:Head→Prop} {y x:Item} (hy:hdI A y):hdI A (XnL y x):=by
  obtain ⟨k,c,i,t,h,f,r⟩:=y
  obtain ⟨k2,c2,i2,t2,h2,f2,r2⟩:=x
  show hdI A (.mk k c i (t++t2) h f r)
  rw [hdI] at hy ⊢
  exact hy
theorem Xo3 (out:List Item) (x:Item):Xw (XiM out x)≤Xw out+XbG x:=by
  rcases List.eq_nil_or_concat out with rfl | ⟨ys,y,rfl⟩
  · rw [Xj2];simp only [Xw];omega
  · rw [List.concat_eq_append,XfB]
    have:=Xps y x
    split
    · rw [XeA,XeA];simp only [Xw];omega
    · rw [XeA];simp only [Xw];omega
theorem XuA {A:Head→Prop} {out:List Item} {x:Item} (h:Xcw A out) (hx:hdI A x):Xcw A (XiM out x):=by
  have h1:∀ z,hdI A z→Xcw A [z]:=fun z hz=>by rw [Xcw,Xcw];exact ⟨hz,trivial⟩
  rcases List.eq_nil_or_concat out with rfl | ⟨ys,y,rfl⟩
  · rw [Xj2];exact h1 _ hx
  · rw [List.concat_eq_append] at h ⊢
    rw [XfB]
    have h2:=Xkk h
    split
    · have hy:=h2.2
      rw [Xcw] at hy
      exact Xi2 h2.1 (h1 _ (XuQ hy.1))
    · exact Xi2 h (h1 _ hx)
theorem Xev:∀ (l out:List Item),Xw (XcX out l)≤Xw out+Xw l
  | [],out=>by rw [XcX,Xw];omega
  | x::l,out=>by
    rw [XcX,Xw]
    have h1:=Xev l (XiM out x)
    have h2:=Xo3 out x
    omega
theorem Xgk {A:Head→Prop}:∀ {l out:List Item},Xcw A l→Xcw A out→Xcw A (XcX out l)
  | [],out,_,h=>by rw [XcX];exact h
  | x::l,out,hl,h=>by
    rw [Xcw] at hl
    rw [XcX]
    exact Xgk hl.2 (XuA h hl.1)
mutual
theorem Xnz:∀ x,XbG (Xj8 x)≤XbG x
  | .mk k c i t h f r=>by
    rw [Xj8,XbG,XbG]
    have h1:=Xev (XeE f) []
    have h2:=Xeu f
    have h3:=XgH r
    rw [Xw] at h1
    omega
theorem Xeu:∀ l,Xw (XeE l)≤Xw l
  | []=>by rw [XeE];omega
  | x::l=>by
    rw [XeE,Xw,Xw]
    have h1:=Xnz x
    have h2:=Xeu l
    omega
theorem XgH:∀ l,Xas (XeH l)≤Xas l
  | []=>by rw [XeH];omega
  | .mk h c::l=>by
    rw [XeH,Xas,Xas,Xeg,Xeg]
    have h1:=XgJ c
    have h2:=XgH l
    omega
theorem XgJ:∀ l,XaM (Xd1 l)≤XaM l
  | []=>by rw [Xd1];omega
  | .mk i h f::l=>by
    rw [Xd1,XaM,XaM,XdR,XdR]
    have h1:=Xev (XeE f) []
    have h2:=Xeu f
    have h3:=XgJ l
    rw [Xw] at h1
    omega
end
theorem Xpd (l:List Item):Xw (Xcj l)≤Xw l:=by
  unfold Xcj
  have h1:=Xev (XeE l) []
  have h2:=Xeu l
  rw [Xw] at h1
  omega
mutual
theorem XrF {A:Head→Prop}:∀ {x},hdI A x→hdI A (Xj8 x)
  | .mk k c i t h f r,hx=>by
    rw [hdI] at hx
    rw [Xj8,hdI]
    exact ⟨hx.1,Xgk (Xgj hx.2.1) (by rw [Xcw];trivial),Xj6 hx.2.2⟩
theorem Xgj {A:Head→Prop}:∀ {l},Xcw A l→Xcw A (XeE l)
  | [],_=>by rw [XeE,Xcw];trivial
  | x::l,h=>by
    rw [Xcw] at h
    rw [XeE,Xcw]
    exact ⟨XrF h.1,Xgj h.2⟩
theorem Xj6 {A:Head→Prop}:∀ {l},XkW A l→XkW A (XeH l)
  | [],_=>by rw [XeH,XkW];trivial
  | .mk h c::l,k=>by
    rw [XkW] at k
    rw [XeH,XkW]
    exact ⟨k.1,Xj9 k.2.1,Xj6 k.2.2⟩
theorem Xj9 {A:Head→Prop}:∀ {l},XmJ A l→XmJ A (Xd1 l)
  | [],_=>by rw [Xd1,XmJ];trivial
  | .mk i h f::l,k=>by
    rw [XmJ] at k
    rw [Xd1,XmJ]
    exact ⟨k.1,Xgk (Xgj k.2.1) (by rw [Xcw];trivial),Xj9 k.2.2⟩
end
theorem XuG {A:Head→Prop} {l:List Item} (h:Xcw A l):Xcw A (Xcj l):=by
  unfold Xcj
  exact Xgk (Xgj h) (by rw [Xcw];trivial)
theorem Xr4 (l m:List Item) (st:List Style) (ls:List Lst):eqv (Xc5 l st ls) (Xc5 m st ls)=eqv l m:=by
  rw [Bool.eq_iff_iff,XaH,XaH]
  constructor
  · intro h
    exact congrArg Doc.flow h
  · rintro rfl;rfl
end Go.Proofs.YtlcphjcpoinolaaGreat
namespace Go.Proofs.YtlcphjcpoinolaaGreat
open Go.RowKit Go.Th
set_option maxRecDepth 20000
def XgA (s:List Int) (i:Int):List Int:=s++[i]
mutual
theorem XpS:∀ (x:Item) (s:List Int),XpT Xhz XgA s x=s++idA x
  | .mk k c i t h f r,s=>by
    rw [XpT,idA,Xif r,Xey f]
    unfold Xhz XgA
    split <;> simp
theorem Xey:∀ (l:List Item) (s:List Int),Xa1 Xhz XgA s l=s++XeI l
  | [],s=>by rw [Xa1,XeI,List.append_nil]
  | x::l,s=>by rw [Xa1,XeI,XpS x,Xey l,List.append_assoc]
theorem Xif:∀ (l:List Row) (s:List Int),Xdc Xhz XgA s l=s++XgS l
  | [],s=>by rw [Xdc,XgS,List.append_nil]
  | .mk h c::l,s=>by rw [Xdc,XgS,Xig c,Xif l,List.append_assoc]
theorem Xig:∀ (l:List Cell) (s:List Int),Xea Xhz XgA s l=s++XhG l
  | [],s=>by rw [Xea,XhG,List.append_nil]
  | .mk i h f::l,s=>by
    rw [Xea,XhG,Xey f,Xig l]
    unfold XgA
    simp
end
def idsW (bx:Nat) (n:Nat) (s:List Int) (A:List (Nat × Blk)):Prop:=s.length+n≤1000000∧∃ o,A=[(bx,⟨[.sl o 0 s.length 1],57,true⟩),(o,⟨s.map I,3,true⟩)]
def Xzg (bx o:Nat) (s:List PV) (i:Int) (G:Xi):Xi :=
  ((G++[some (Blk.mk [I i] 3 true)]).set o none++[some (Blk.mk (s++[I i]) 3 true)]).set bx (some (Blk.mk [.sl (G++[some (Blk.mk [I i] 3 true)]).length 0 (s.length+1) 1] 57 true))
set_option maxHeartbeats 8000000 in
theorem Xvj (bx o:Nat) (s:List Int) (i:Int) (hs:s.length≤1000000) (G:Xi) (K:List (Nat × Blk)) (hG:Has G ((bx,⟨[.sl o 0 s.length 1],57,true⟩)::(o,⟨s.map I,3,true⟩)::K)) :
    AC Tryz.prog 74 [I i,.ptr bx 0] G (fun p G'=>p=I i∧G'=Xzg bx o (s.map I) i G):=by
  unfold Xzg
  rw [List.length_map]
  refine Xv Tryz.func74 rfl rfl rfl ?_
  refine Zc ?_
  refine Zb ?_
  repeat(first|refine Zd ?_)
  refine Za ?_
  refine Zc ?_
  refine Zb ?_
  repeat(first|refine Xfs rfl rfl (by decide) (XaB rfl rfl rfl rfl rfl rfl rfl rfl) ?_|refine Zet ?_)
  have hG1:Has (G++[some (Blk.mk [I i] 3 true)]) ((G.length,Blk.mk [I i] 3 true)::(bx,⟨[.sl o 0 s.length 1],57,true⟩)::(o,⟨s.map I,3,true⟩)::K):=hG.new _
  refine Xfs rfl rfl (by decide) (Xcg rfl rfl rfl rfl (hG1.cellsOf (k:=0) rfl rfl) rfl (Xdi (hG1.get 2 _ _ rfl) rfl rfl (by rw [Xdb];exact Nat.beq_refl _)) (by omega) (by omega)) ?_
  have hG2:Has ((G++[some (Blk.mk [I i] 3 true)]).set o none++[some (Blk.mk (s.map I++[I i]) 3 true)]) ((G.length,Blk.mk [I i] 3 true)::(bx,⟨[.sl o 0 s.length 1],57,true⟩)::((G++[some (Blk.mk [I i] 3 true)]).length,Blk.mk (s.map I++[I i]) 3 true)::K):=by
    have:=hG1.grow (k:=2) rfl (Blk.mk (s.map I++[I i]) 3 true)
    exact this
  refine Xon rfl rfl (XH rfl rfl rfl (hG2.get 1 _ _ rfl) rfl rfl rfl rfl rfl) ?_
  refine Za ?_
  refine Zc ?_
  refine Zb ?_
  repeat(first|refine Zet ?_)
  refine Za ?_
  refine Zf ?_
  exact Zai
theorem XrW (bx o:Nat) (s:List Int) (i:Int) (G:Xi) (K:List (Nat × Blk)) (hG:Has G ((bx,⟨[.sl o 0 s.length 1],57,true⟩)::(o,⟨s.map I,3,true⟩)::K)) :
    Has (Xzg bx o (s.map I) i G) ((bx,⟨[.sl (G++[some (Blk.mk [I i] 3 true)]).length 0 (XgA s i).length 1],57,true⟩)::((G++[some (Blk.mk [I i] 3 true)]).length,⟨(XgA s i).map I,3,true⟩)::K):=by
  unfold Xzg XgA
  rw [List.length_map,show (s++[i]).length=s.length+1 by simp,show (s++[i]).map I=s.map I++[I i] by simp]
  have h1:Has (G++[some (Blk.mk [I i] 3 true)]) ((G.length,Blk.mk [I i] 3 true)::(bx,⟨[.sl o 0 s.length 1],57,true⟩)::(o,⟨s.map I,3,true⟩)::K):=hG.new _
  have h2:=h1.grow (k:=2) rfl (Blk.mk (s.map I++[I i]) 3 true)
  have h3:=h2.set (k:=1) rfl (Blk.mk [.sl (G++[some (Blk.mk [I i] 3 true)]).length 0 (s.length+1) 1] 57 true)
  exact h3.tail
set_option maxHeartbeats 8000000 in
theorem XrZ (l:List Item) (hc:Xw l≤300):Iso Tryz.prog 26 [Xh l] (fun p=>p=Xpz (XeI l)):=by
  have hG:=Xd
  have hln:=Xcy l
  refine Xb Tryz.func26 rfl rfl rfl ?_
  refine Zc ?_
  refine Zb ?_
  repeat(first|refine Zd ?_)
  refine Za ?_
  refine Zc ?_
  refine Zb ?_
  repeat(first|(refine ZI ?_;intro id G hG))
  refine Za ?_
  obtain ⟨bx,hbx⟩:∃ bx,bx=id:=⟨_,rfl⟩
  rw [← hbx] at hG ⊢
  clear hbx
  refine XcD 0 0 3 1 hG rfl rfl ?_
  clear hG
  intro o G hG
  have hG:Has G [(bx,⟨[.sl o 0 0 1],57,true⟩),(o,⟨[],3,true⟩)]:=hG.perm (List.Perm.swap _ _ _)
  repeat(first|refine Zez ?_|refine Zav ?_|refine Zaj ?_|(refine Zz ?_;intro G hG)|(refine ZI ?_;intro id G hG))
  have hG:Has G ((id,⟨reP 73 [] 74 [.ptr bx 0],149,true⟩)::([(bx,⟨[.sl o 0 0 1],57,true⟩),(o,⟨[],3,true⟩)]++[])):=hG
  have hm:=XgE (idsW bx) (fun a b s A h k=>⟨by have:=k.1;omega,k.2⟩) Xhz XgA 73 74 [] [.ptr bx 0] (fun _ _ G=>G) (fun A i G=>match A with | (_,_)::(o,B)::_=>Xzg bx o B.cells i G | _=>G)
    (fun _ s A G K x top hW hG=>(XjT x top).AC (Xk3 x top))
    (fun _ s A G K x hW hG=>⟨A,hW,hG⟩)
    (fun n s A G K i hW hG=>by
      obtain ⟨h1,o,rfl⟩:=hW
      exact Xvj bx o s i (by omega) G K hG)
    (fun n s A G K i hW hG=>by
      obtain ⟨h1,o,rfl⟩:=hW
      exact ⟨_,⟨by unfold XgA;rw [List.length_append];simp only [List.length_cons,List.length_nil];omega,_,rfl⟩,XrW bx o s i G K hG⟩)
    _ l (Nat.le_refl _) hc 0 true [] [(bx,⟨[.sl o 0 0 1],57,true⟩),(o,⟨[],3,true⟩)] G [] ⟨by simp only [List.length_nil];omega,o,rfl⟩ hG.tail
  rw [Xey,List.nil_append] at hm
  refine ZbH ?_
  rintro _ G ⟨⟨o2,rfl⟩,A,⟨_,o3,rfl⟩,hG⟩
  generalize XeI l=jl at hG ⊢
  have hG:Has G [(bx,⟨[.sl o3 0 jl.length 1],57,true⟩),(o3,⟨jl.map I,3,true⟩)]:=hG
  repeat(first|refine Zes ?_)
  exact XI rfl rfl (Conv.own hG (k:=1) rfl (Xdb jl)) (XhX jl) rfl
end Go.Proofs.YtlcphjcpoinolaaGreat
namespace Go.Proofs.YtlcphjcpoinolaaGreat
open Go.RowKit Go.Th
set_option maxRecDepth 20000
theorem Xkg (l:List Item) (hc:Xw l≤300) (hf:XbV l):Iso Tryz.prog 27 [Xh l] (fun p=>p=B (eqv l (Xcj l))):=by
  have hG:=Xd
  have hn:=Xia l hc hf
  generalize Xcj l=m at hn ⊢
  have he:=Xha l m
  have t1:∀ c ∈ [Xh l],Xk c:=TreeL.cons (XM _) TreeL.nil
  have t2:∀ c ∈ [Xh l,Xh m],Xk c:=TreeL.cons (XM _) (TreeL.cons (XM _) TreeL.nil)
  refine Xb Tryz.func27 rfl rfl rfl ?_
  repeat(first|refine Zes ?_|(refine Xr rfl rfl rfl rfl rfl rfl (by decide) hn t1 ?_;rintro _ rfl)|(refine Xr rfl rfl rfl rfl rfl rfl (by decide) he t2 ?_;rintro _ rfl))
  exact XI rfl rfl (.refl _) (Xcv _) rfl
def Xoh:List Int→Nat→Bool
  | [],_=>false
  | x::l,i=>if x=(i:Int)+1 then Xoh l (i+1) else true
def XAM (e:Int) (a m q:Bool):Int:=if e=0 then (if a=true then 19 else if m=true then 18 else if q=true then 0 else 15) else e
theorem Xtx (l:List Item) (st:List Style) (ls:List Lst):∀ c ∈ XfM l st ls,Xk c:=Xa (XM _) (Xa (XS _) (Xa (XaN _) Xs))
set_option maxHeartbeats 16000000 in
theorem Xql (l:List Item) (st:List Style) (ls:List Lst) (hc:Xw l≤300) (hs:SmS ⟨st,ls,[],[]⟩) (e:Int) (hd:Iso Tryz.prog 19 [.agg (X8 (Xc5 l st ls))] (fun p=>p=I e))
    (hg:e=0→Xcw XcU l∧XbV l):Iso Tryz.prog 7 [.agg (XfM l st ls)] (fun p=>p=I (XAM e (Xjv l) (Xoh (XeI l) 0) (eqv l (Xcj l)))):=by
  have hG:=Xd
  have hdoc:=XoB l st ls
  have t0:∀ c ∈ [PV.agg (XfM l st ls)],Xk c:=TreeL.cons (Xk.agg (Xtx l st ls)) TreeL.nil
  have t1:∀ c ∈ [PV.agg (X8 (Xc5 l st ls))],Xk c:=TreeL.cons (Xk.agg (Xam _)) TreeL.nil
  refine Xb Tryz.func7 rfl rfl rfl ?_
  repeat refine Xaf ?_
  refine Zb ?_
  repeat(first|refine Zd ?_|(refine ZH ?_;intro id G hG))
  refine Za ?_
  refine ZaA ?_
  clear hG
  intro G hG
  repeat refine Xaf ?_
  refine Zb ?_
  repeat(first|(refine Xr rfl rfl rfl rfl rfl rfl (by decide) hdoc t0 ?_;rintro _ rfl)|refine Zt ?_|(refine Zz ?_;intro G hG)|(refine ZI ?_;intro id G hG))
  refine Za ?_
  refine Xz (C:=⟨X8 (Xc5 l st ls),53,true⟩) 3 hG rfl ?_
  clear hG
  intro G hG
  repeat refine Xaf ?_
  refine Zb ?_
  repeat(first|(refine Xr rfl rfl rfl rfl rfl rfl (by decide) hd t1 ?_;rintro _ rfl)|refine Zet ?_)
  refine Za ?_
  unfold XAM
  by_cases h0:e=0
  rotate_left
  · rw [if_neg h0]
    repeat(first|refine Zes ?_)
    exact Zaf
  rw [if_pos h0]
  obtain ⟨g1,g2⟩:=hg h0
  have hi:=Xlx l hc
  have hp:=Xj4 (Xc5 l st ls) hc g1 ⟨rfl,rfl,rfl⟩ (Xam _)
  have ha:=XkO l hc
  have hln:=Xcy l
  have hn:=Xji l st ls hc (Nat.le_trans (Xpd l) hc) g2 (XuG g1) hs
  have hq:=Xqa (Xc5 l st ls) (Xc5 (Xcj l) st ls)
  rw [Xr4] at hq
  have tl:∀ c ∈ [Xh l],Xk c:=TreeL.cons (XM _) TreeL.nil
  have t2:∀ c ∈ [PV.agg (X8 (Xc5 l st ls)),PV.agg (X8 (Xc5 (Xcj l) st ls))],Xk c:=TreeL.cons (Xk.agg (Xam _)) (TreeL.cons (Xk.agg (Xam _)) TreeL.nil)
  generalize eqv l (Xcj l)=q at hq ⊢
  generalize Xcj l=m at hn hq t2
  generalize Xjv l=a at ha ⊢
  generalize XeI l=j at hi hln ⊢
  have hjl:j.length≤300:=by omega
  clear hln hc hg g1 g2 hs hd hdoc
  have tn:=tl
  repeat(first|refine Zes ?_|(refine Xr rfl rfl rfl rfl rfl rfl (by decide) hi tl ?_;rintro _ rfl))
  refine Xg (S:=Nat) (fun i=>[(1,.ept (XfM l st ls) 0),(3,.ept (X8 (Xc5 l st ls)) 0),(16,Xpz j),(17,I j.length),(18,I i)]) (fun i G=>i≤j.length∧(a=false→Xoh j 0=Xoh (j.drop i) i)∧Has G []) (fun i=>j.length - i) 0
    (.cons rfl (.cons rfl (.cons rfl (.cons rfl (.cons rfl (.nil _)))))) ⟨Nat.zero_le _,fun _=>by rw [List.drop_zero],Has.nil _⟩ ?_
  clear hG
  rintro i G ⟨hi2,hf,hG⟩
  by_cases hil:i < j.length
  · obtain ⟨x,hx⟩:∃ x,j[i]?=some x:=⟨_,List.getElem?_eq_getElem hil⟩
    have hcx:=Xjd hx
    rw [X2 hx,Xoh] at hf
    by_cases hxi:x=(i:Int)+1
    · rw [if_pos hxi] at hf
      repeat(first|refine Zes ?_|refine ZbI ?_)
      exact Zeg
    · rw [if_neg hxi] at hf
      cases a with
      | true =>
        repeat(first|refine Zes ?_|refine ZbI ?_|(refine Zbl ?_;rintro _ rfl)|(refine Zbm ?_;rintro _ rfl))
        exact ⟨i+1,by omega,.cons rfl (.cons rfl (.cons rfl (.cons rfl (.cons rfl (.nil _))))),by omega,(fun h=>by cases h),hG⟩
      | false =>
        rw [hf rfl]
        repeat(first|refine Zes ?_|refine ZbI ?_|(refine Zbl ?_;rintro _ rfl)|(refine Zbm ?_;rintro _ rfl))
        exact Zaf
  · have e0:j.drop i=[]:=List.drop_eq_nil_of_le (by omega)
    rw [e0,Xoh] at hf
    cases a with
    | true =>
      repeat(first|refine Zes ?_|(refine Zbl ?_;rintro _ rfl)|(refine Zbm ?_;rintro _ rfl))
      exact Zaf
    | false =>
      rw [hf rfl]
      clear hf
      repeat(first|refine Zes ?_|(refine Zbl ?_;rintro _ rfl)|(refine Zbm ?_;rintro _ rfl))
      refine ZD ?_
      repeat(first|refine Xw8 rfl rfl rfl (by decide) (Iso.K rfl rfl rfl rfl hn t1) ?_|refine Xw8 rfl rfl rfl (by decide) (Iso.K rfl rfl rfl rfl hq t2) ?_|refine Zeu ?_)
      cases q with
      | true =>
        repeat(first|refine Zes ?_)
        exact Zaf
      | false =>
        repeat(first|refine Zes ?_)
        exact Zaf
set_option maxHeartbeats 16000000 in
theorem Xoa (l:List Item) (st:List Style) (ls:List Lst) (hc:Xw l≤300) (hs:SmS ⟨st,ls,[],[]⟩) (e:Int) (hd:Iso Tryz.prog 19 [.agg (X8 (Xc5 l st ls))] (fun p=>p=I e))
    (hg:e=0→Xcw XcU l∧XbV l):Iso Tryz.prog 8 [.agg (XfM l st ls)] (fun p=>p=I (XAM e (Xjv l) (Xoh (XeI l) 0) (eqv l (Xcj l)))):=by
  have hG:=Xd
  have hdoc:=Xnh l st ls
  have t0:∀ c ∈ [PV.agg (XfM l st ls)],Xk c:=TreeL.cons (Xk.agg (Xtx l st ls)) TreeL.nil
  have t1:∀ c ∈ [PV.agg (X8 (Xc5 l st ls))],Xk c:=TreeL.cons (Xk.agg (Xam _)) TreeL.nil
  refine Xb Tryz.func8 rfl rfl rfl ?_
  repeat refine Xaf ?_
  refine Zb ?_
  repeat(first|refine Zd ?_|(refine ZH ?_;intro id G hG))
  refine Za ?_
  refine ZaA ?_
  clear hG
  intro G hG
  repeat refine Xaf ?_
  refine Zb ?_
  repeat(first|(refine Xr rfl rfl rfl rfl rfl rfl (by decide) hdoc t0 ?_;rintro _ rfl)|refine Zt ?_|(refine Zz ?_;intro G hG)|(refine ZI ?_;intro id G hG))
  refine Za ?_
  refine Xz (C:=⟨X8 (Xc5 l st ls),53,true⟩) 3 hG rfl ?_
  clear hG
  intro G hG
  repeat refine Xaf ?_
  refine Zb ?_
  repeat(first|(refine Xr rfl rfl rfl rfl rfl rfl (by decide) hd t1 ?_;rintro _ rfl)|refine Zet ?_)
  refine Za ?_
  unfold XAM
  by_cases h0:e=0
  rotate_left
  · rw [if_neg h0]
    repeat(first|refine Zes ?_)
    exact Zaf
  rw [if_pos h0]
  obtain ⟨g1,g2⟩:=hg h0
  have hi:=XrZ l hc
  have hp:=Xj4 (Xc5 l st ls) hc g1 ⟨rfl,rfl,rfl⟩ (Xam _)
  have ha:=Xju l hc
  have hln:=Xcy l
  have hq:=Xkg l hc g2
  have tl:∀ c ∈ [Xh l],Xk c:=TreeL.cons (XM _) TreeL.nil
  generalize eqv l (Xcj l)=q at hq ⊢
  generalize Xjv l=a at ha ⊢
  generalize XeI l=j at hi hln ⊢
  have hjl:j.length≤300:=by omega
  clear hln hc hg g1 g2 hs hd hdoc
  cases a with
  | true =>
    repeat(first|refine Zes ?_|(refine Zbl ?_;rintro _ rfl)|(refine Zbm ?_;rintro _ rfl))
    exact Zaf
  | false =>
    repeat(first|refine Zes ?_|(refine Zbl ?_;rintro _ rfl)|(refine Zbm ?_;rintro _ rfl)|(refine Xr rfl rfl rfl rfl rfl rfl (by decide) hi tl ?_;rintro _ rfl))
    refine Xg (S:=Nat) (fun i=>[(1,.ept (XfM l st ls) 0),(5,Xpz j),(6,I i)]) (fun i G=>i≤j.length∧Xoh j 0=Xoh (j.drop i) i∧Has G []) (fun i=>j.length - i) 0
      (.cons rfl (.cons rfl (.cons rfl (.nil _)))) ⟨Nat.zero_le _,by rw [List.drop_zero],Has.nil _⟩ ?_
    clear hG
    rintro i G ⟨hi2,hf,hG⟩
    by_cases hil:i < j.length
    · obtain ⟨x,hx⟩:∃ x,j[i]?=some x:=⟨_,List.getElem?_eq_getElem hil⟩
      have hcx:=Xjd hx
      rw [X2 hx,Xoh] at hf
      by_cases hxi:x=(i:Int)+1
      · rw [if_pos hxi] at hf
        repeat(first|refine Zes ?_|refine ZbI ?_)
        exact Za4
      · rw [if_neg hxi] at hf
        rw [hf]
        repeat(first|refine Zes ?_|refine ZbI ?_)
        exact Zaf
    · have e0:j.drop i=[]:=List.drop_eq_nil_of_le (by omega)
      rw [e0,Xoh] at hf
      rw [hf]
      cases q with
      | true =>
        repeat(first|refine Zes ?_|(refine Xr rfl rfl rfl rfl rfl rfl (by decide) hq tl ?_;rintro _ rfl))
        exact Zaf
      | false =>
        repeat(first|refine Zes ?_|(refine Xr rfl rfl rfl rfl rfl rfl (by decide) hq tl ?_;rintro _ rfl))
        exact Zaf
set_option maxHeartbeats 16000000 in
theorem XoF (l:List Item) (st:List Style) (ls:List Lst):Iso Tryz.prog 6 [.agg (XfM l st ls)] (fun p=>∃ b,p=B b∧(b=true→Xw l≤300∧SmS ⟨st,ls,[],[]⟩)):=by
  have hG:=Xd
  have h1:=XhB l
  have h2:Iso Tryz.prog 17 [.agg [XN st,Xbq ls,XaQ,XaQ]] (fun p=>∃ b,p=B b∧(b=true→SmS ⟨st,ls,[],[]⟩)) :=
    Xtn (XiH ⟨st,ls,[],[]⟩) (.cons (Wk.agg (.cons (.refl _) (.cons (.refl _) (.cons (.nil 6) (.cons (.nil 2) .nil))))) .nil)
  have t1:∀ c ∈ [Xh l],Xk c:=TreeL.cons (XM _) TreeL.nil
  have t2:∀ c ∈ [PV.agg [XN st,Xbq ls,XaQ,XaQ]],Xk c:=TreeL.cons (Xk.agg (TreeL.cons (XS _) (TreeL.cons (XaN _) (TreeL.cons Xci (TreeL.cons Xci TreeL.nil))))) TreeL.nil
  refine Xb Tryz.func6 rfl rfl rfl ?_
  repeat refine Xaf ?_
  refine Zb ?_
  repeat(first|refine Zd ?_|(refine ZH ?_;intro id G hG))
  refine Za ?_
  refine ZaA ?_
  clear hG
  intro G hG
  repeat refine Xaf ?_
  refine Zb ?_
  repeat(first|refine Zet ?_)
  refine Xr rfl rfl rfl rfl rfl rfl (by decide) h1 t1 ?_
  rintro _ ⟨b,rfl,hb⟩
  cases b with
  | false =>
    repeat(first|refine Zes ?_)
    exact XI rfl rfl (.refl _) (Xcv _) ⟨false,rfl,fun h=>by cases h⟩
  | true =>
    have h3:=hb rfl
    repeat(first|refine Zet ?_|refine Zaj ?_)
    refine Xr rfl rfl rfl rfl rfl rfl (by decide) h2 t2 ?_
    rintro _ ⟨b2,rfl,hb2⟩
    repeat(first|refine Zes ?_)
    exact XI rfl rfl (.refl _) (Xcv _) ⟨b2,rfl,fun h=>⟨h3,hb2 h⟩⟩
set_option maxHeartbeats 16000000 in
theorem Xn9 (l:List Item) (st:List Style) (ls:List Lst) (hk:Iso Tryz.prog 5 [] (fun p=>p=B true)):Iso Tryz.prog 3 [.agg (XfM l st ls)] (fun p=>p=B true):=by
  have hG:=Xd
  have hs:=XoF l st ls
  have t0:∀ c ∈ [PV.agg (XfM l st ls)],Xk c:=TreeL.cons (Xk.agg (Xtx l st ls)) TreeL.nil
  refine Xb Tryz.func3 rfl rfl rfl ?_
  repeat refine Xaf ?_
  refine Zb ?_
  repeat(first|refine Zd ?_|(refine ZH ?_;intro id G hG))
  refine Za ?_
  refine ZaA ?_
  clear hG
  intro G hG
  repeat refine Xaf ?_
  refine Zb ?_
  repeat(first|(refine Xr rfl rfl rfl rfl rfl rfl (by decide) hk TreeL.nil ?_;rintro _ rfl)|refine Zet ?_)
  refine Xr rfl rfl rfl rfl rfl rfl (by decide) hs t0 ?_
  rintro _ ⟨b,rfl,hb⟩
  cases b with
  | false =>
    repeat(first|refine Zes ?_|(refine Xr rfl rfl rfl rfl rfl rfl (by decide) hk TreeL.nil ?_;rintro _ rfl))
    exact XI rfl rfl (.refl _) (Xcv _) rfl
  | true =>
    obtain ⟨hc,hs⟩:=hb rfl
    obtain ⟨e1,e2,hd⟩:=Xly l st ls hc hs
    have hg:Xte e1 e2 (Xc5 l st ls)=0→Xcw XcU l∧XbV l:=Xsd
    generalize Xte e1 e2 (Xc5 l st ls)=e at hd hg
    have k1:=Xql l st ls hc hs e hd hg
    have k2:=Xoa l st ls hc hs e hd hg
    generalize XAM e (Xjv l) (Xoh (XeI l) 0) (eqv l (Xcj l))=z at k1 k2
    clear hd hg hk hb hc hs e1 e2
    repeat(first|refine Zes ?_)
    refine ZD ?_
    repeat(first|refine Xw8 rfl rfl rfl (by decide) (Iso.K rfl rfl rfl rfl k1 t0) ?_|refine Xw8 rfl rfl rfl (by decide) (Iso.K rfl rfl rfl rfl k2 t0) ?_|refine Y_q rfl rfl rfl (by decide) (XP rfl rfl rfl (congrArg some (decide_eq_true rfl))) ?_|refine Zeu ?_)
    repeat(first|refine Zf ?_)
    exact XI rfl rfl (.refl _) (Xcv _) rfl
end Go.Proofs.YtlcphjcpoinolaaGreat
namespace Go.Proofs.YtlcphjcpoinolaaGreat
open Go.ChangeShapes Go.WideShapes Go.ChangeAt Go.RowKit
set_option maxRecDepth 100000
theorem XBN:(Rows.fragmentChecksRow.wf (OpenSpec.ofChange Rows.fragmentChecksSpec))=true:=by kernel_rfl
theorem XBM:(laidOutB Tryz.prog)=true:=by kernel_rfl
theorem XBL:(mapsRowed Tryz.prog)=true:=by kernel_rfl
theorem XBK:(Tryz.f3.params.all (Tryz.prog.readableRec ·))=true:=by kernel_rfl
theorem XBJ:(namedTie Tryz.prog Rows.fragmentChecksRow.named Rows.fragmentChecksSpec.vars)=true:=by kernel_rfl
theorem XBI:((Rows.fragmentChecksRow.stops == []))=true:=by kernel_rfl
theorem XBH:((Tryz.prog.stops == []))=true:=by kernel_rfl
theorem XBG:((Rows.fragmentChecksRow.knobs == []))=true:=by kernel_rfl
theorem XBF:((Tryz.prog.stopKnobs == []))=true:=by kernel_rfl
theorem XAz:((Rows.fragmentChecksRow.inPlace == Tryz.prog.inPlace 3))=true:=by kernel_rfl
theorem XAy:((Rows.fragmentChecksRow.unfollowed == Tryz.prog.unfollowed 3))=true:=by kernel_rfl
theorem XAx:((Rows.fragmentChecksRow.recurses == Tryz.prog.recurses 3))=true:=by kernel_rfl
theorem XAw:((Rows.fragmentChecksRow.named == Tryz.prog.varsNamed 3))=true:=by kernel_rfl
theorem XAv:((Rows.fragmentChecksRow.maps == (Tryz.f3.params.toList++Rows.fragmentChecksSpec.plain.varTypes Tryz.prog).any (Tryz.prog.mapsRec ·)))=true:=by kernel_rfl
theorem XAu:((Rows.fragmentChecksRow.ifaces == (Tryz.f3.params.toList++Rows.fragmentChecksSpec.plain.varTypes Tryz.prog).any (Tryz.prog.ifacesRec ·)))=true:=by kernel_rfl
theorem XAt:((Rows.fragmentChecksRow.mapsOut == Tryz.prog.mapsAmong Tryz.f3.resultTypes.toList))=true:=by kernel_rfl
theorem XAs:((Rows.fragmentChecksRow.loops == (Tryz.f3.params.toList++Rows.fragmentChecksSpec.plain.varTypes Tryz.prog).any (Tryz.prog.loopsFrom ·)))=true:=by kernel_rfl
theorem XAr:((Rows.fragmentChecksRow.wideKeys == (Tryz.f3.params.toList++Rows.fragmentChecksSpec.plain.varTypes Tryz.prog++Tryz.f3.resultTypes.toList).any (Tryz.prog.wideKeysFrom ·)))=true:=by kernel_rfl
theorem XAq:(Rows.fragmentChecksSpec.vars.all (Tryz.prog.varReadable ·))=true:=by kernel_rfl
theorem XAp:(Tryz.f3.resultTypes.all (fun t=>Tryz.prog.readableRec t && decide (t < Tryz.prog.types.size)))=true:=by kernel_rfl
theorem XAo:((Rows.fragmentChecksRow.ifacesOut == Tryz.f3.resultTypes.toList.any (Tryz.prog.ifacesRec ·)))=true:=by kernel_rfl
theorem XAn:((Rows.fragmentChecksRow.loopsOut == Tryz.f3.resultTypes.toList.any (Tryz.prog.loopsFrom ·)))=true:=by kernel_rfl
theorem XAm:((Rows.fragmentChecksRow.plainKeys == Tryz.prog.plainKeys))=true:=by kernel_rfl
theorem XAl:(Rows.fragmentChecksRow.shortTexts.isNone)=true:=by kernel_rfl
theorem XAk:(Tryz.prog.stopsHeard)=true:=by kernel_rfl
theorem XAj:(Tryz.prog.mayEnter)=true:=by kernel_rfl
theorem XAi:((Rows.fragmentChecksRow.lifted == Tryz.prog.liftsFinal))=true:=by kernel_rfl
theorem XAh:((Tryz.prog.make == some Rows.fragmentChecksRow.make))=true:=by kernel_rfl
theorem XAg:((Rows.fragmentChecksRow.kinds == (if Rows.fragmentChecksRow.domain.isEmpty then [] else Tryz.f3.params.toList.map fun t=>match Tryz.prog.underlying t with | some (.int k)=>some k | _=>none)))=true:=by kernel_rfl
theorem XAf:((Rows.fragmentChecksRow.pinned == Rows.fragmentChecksRow.pinnedBy))=true:=by kernel_rfl
theorem XAe:((Rows.fragmentChecksRow.veiled == (Tryz.f3.params.toList++Rows.fragmentChecksSpec.plain.varTypes Tryz.prog++Tryz.f3.resultTypes.toList).any (Tryz.prog.veiledRec ·)))=true:=by kernel_rfl
theorem XAd:(Rows.fragmentChecksRow.veiledFits Tryz.prog Tryz.f3.params.toList (Tryz.f3.params.toList++Rows.fragmentChecksSpec.plain.varTypes Tryz.prog++Tryz.f3.resultTypes.toList))=true:=by kernel_rfl
theorem Xe3 {a b:Bool} (h:a=true) (k:b=true):(a && b)=true:=by rw [h,k];rfl
theorem facts:joinedFacts Tryz.pinned.checked.prog 3 Tryz.f3 Rows.fragmentChecksSpec Rows.fragmentChecksRow=true:=Xe3 (Xe3 (Xe3 (Xe3 (Xe3 (Xe3 (Xe3 (Xe3 (Xe3 (Xe3 (Xe3 (Xe3 (Xe3 (Xe3 (Xe3 (Xe3 (Xe3 (Xe3 (Xe3 (Xe3 (Xe3 (Xe3 (Xe3 (Xe3 (Xe3 (Xe3 (Xe3 (Xe3 (Xe3 (Xe3 (Xe3 XBN XBM) XBL) XBK) XBJ) XBI) XBH) XBG) XBF) XAz) XAy) XAx) XAw) XAv) XAu) XAt) XAs) XAr) XAq) XAp) XAo) XAn) XAm) XAl) XAk) XAj) XAi) XAh) XAg) XAf) XAe) XAd
theorem XBz:Tryz.f3.isInstance Tryz.pinned.checked.prog Rows.fragmentChecksRow.origin Rows.fragmentChecksRow.targs:=of_decide_eq_true (by kernel_rfl)
theorem XA7:Tryz.f3.isWrapper Tryz.pinned.checked.prog Rows.fragmentChecksRow.wrapper Rows.fragmentChecksRow.mainSum:=by
  unfold Func.isWrapper
  first
    | (rw [if_pos (by decide +kernel)];kernel_rfl)
    | (rw [if_neg (by decide +kernel)];exact ⟨rfl,rfl⟩)
theorem XyH:Tryz.pinned.checked.prog.funcNamed Rows.fragmentChecksRow.func=some 3:=by kernel_rfl
end Go.Proofs.YtlcphjcpoinolaaGreat
namespace Go.Proofs.YtlcphjcpoinolaaGreat
open Go.ChangeShapes Go.WideShapes Go.ChangeAt Go.RowKit Go.Th
theorem Xlo:Iso Tryz.prog 5 [] (fun p=>p=B true):=Xkf Tryz.func5 (by kernel_rfl) (by kernel_rfl) XiU
set_option maxRecDepth 100000 in
theorem Xd7 (os:Os) (started:os.Started) (H:Type) (enc:TypeId × Value→H) :
    ReturnsInHanded {} Tryz.checked os 3 .any (Rows.fragmentChecksSpec.pre6 enc Tryz.prog Tryz.f3 Rows.fragmentChecksRow.domain false) (Rows.fragmentChecksSpec.post enc Tryz.prog Tryz.f3 false true false false):=by
  refine returnsInHanded_of_change (C:=Tryz.checked) Xrz started (by kernel_rfl) Tryz.func3
    (ChangeSpec.witness6 (enc:=enc) (C:=Tryz.checked) false ⟨#[],#[.agg #[.slice none 0 0,.slice none 0 0,.slice none 0 0]],[]⟩ 8 (by kernel_rfl) (by kernel_rfl) (by kernel_rfl) (by kernel_rfl)) ?_
  intro W base args ds gs before hval0 hW hcnd _
  have hval:∀ (j:Nat) t v,Tryz.f3.params[j]?=some t→args[j]?=some v→Value.okWide Tryz.prog W .any base t v:=hval0
  have hW':=hW
  obtain ⟨p,q,hA0,hV,rfl,hfz,hnd⟩:=hW
  have hA:DataW.TrodAll enc Tryz.prog W 0 (fun _=>true) true Tryz.f3.params.toList args.toList ds p:=hA0
  rw [Tryz.params3] at hA hval
  obtain ⟨v0,vs0,d0,ds0,p0,q0,hargs,rfl,rfl,h0,r0⟩:=trodAll_cons hA
  obtain ⟨rfl,rfl,rfl⟩:=trodAll_nil r0
  obtain rfl:args=#[v0]:=by cases args;simp_all
  obtain ⟨rfl,rfl⟩:=trodVars_none hV
  obtain ⟨cs0,rfl,_⟩:=okWide_struct Tryz.underlying26 (hval 0 26 v0 rfl rfl)
  have h0k:=h0
  obtain ⟨f0,hf0⟩:=h0
  obtain ⟨l,st,ls,ha⟩:=Xut hf0
  clear hA0 hval0
  simp only [List.append_nil] at hW'
  have hlt0:∀ x ∈ p0,x.block < W.heap.size:=fun x hx=>by
    have:=hW'.lt x
    exact this (by simp [hx])
  refine (Xpw (W:=W) (Xn9 l st ls Xlo) (vals:=#[.agg cs0]) ⟨rfl,fun j c hj=>?_⟩).mono fun e W' ⟨he,hb⟩=>?_
  · match j with
    | 0=>simp at hj;subst hj;exact XkV ha
    | j+1=>simp at hj
  subst he
  exact ⟨_,rfl,XiN (pa:=p0) (pv:=[]) hW' (fun _ _ _=>(trodAll_cons_mk (shut_bool Tryz.underlying4 _) trodAll_mk0))
    (fun sp hsp=>by
      have t0:=WideElems.Trod_stays (sp':=sp) XrQ (by kernel_rfl) (of_decide_eq_true (by kernel_rfl)) h0k (fun x hx=>hb.same (hlt0 x hx)) (fun x hx=>hsp x (by simp [hx]))
      have t2:=trodAll_cons_mk t0 trodAll_mk0
      simp only [List.append_nil] at t2
      exact t2)
    (fun _ _=>rfl) (by simp) hb (ok_one (by kernel_rfl) rfl (okWide_bool_mk Tryz.underlying4 _))⟩
theorem XeZ:Rows.fragmentChecksRow.holds Tryz.pinned (OpenSpec.ofChange Rows.fragmentChecksSpec) :=
  OpenClaim.holds_of_wide 3 Tryz.f3 rfl rfl rfl rfl rfl rfl rfl ⟨rfl,rfl,rfl,rfl,rfl⟩ rfl rfl rfl rfl rfl XyH Tryz.func3 facts XBz XA7
    (fun os started H enc _=>Xd7 os started H enc)
theorem fragmentChecks:Rows.FragmentChecksSaid:=XeZ
end Go.Proofs.YtlcphjcpoinolaaGreat
