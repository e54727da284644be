/- Part of the proof: the walk over the program and its laws: ThA ThB. -/
import Derived.WalkKit
import Derived.OrdersIn
import Derived.TacticsIn
import Derived.RangeFuncLeaves
import Derived.RangeFuncNested
import Derived.Orders
import Derived.OwnWalk
import Derived.Test.YtlcphjcpoinolaaGreatP0
set_option linter.unusedVariables false
namespace Go.Th
open Go.RowKit
inductive PV where
  | v (x:Value)
  | ptr (id off:Nat)
  | ept (cells:List PV) (off:Nat)
  | sl (id off len sz:Nat)
  | tr (cells:List PV) (len sz:Nat)
  | fn (f:Fn) (cap:List PV)
  | agg (cells:List PV)
  | tup (vs:List PV)
  | mp (id:Nat)
  | it (id:Nat)
  | yld (id:Nat)
  deriving Inhabited
inductive Elem where
  | ty (t:TypeId)
  | loop (fn:FuncId) (params:Array Tmp) (assign body:Code) (n:Nat) (ts:List Nat)
instance (n:Nat):OfNat Elem n:=⟨.ty n⟩
instance:Coe TypeId Elem:=⟨.ty⟩
def Elem.tid:Elem→TypeId
  | .ty t=>t
  | _=>0
structure Blk where
  cells:List PV
  elem:Elem
  own:Bool
abbrev Xi:=List (Option Blk)
structure Mp where
  blk:Nat→Option (Nat × Nat × Nat)
  ro:Nat→Prop
  keep:Nat→Prop
  top:Nat:=0
def Xfd:Value→Bool
  | .agg _=>false
  | _=>true
inductive Rep (m:Mp) (w:World):PV→Value→Prop
  | v (x:Value) (h:Xfd x=true):Rep m w (.v x) x
  | ptr {id off b lim:Nat} (h:m.blk id=some (b,0,lim)):Rep m w (.ptr id off) (.pointer (some ⟨b,0+off,none⟩))
  | mp {id b lim:Nat} (h:m.blk id=some (b,1,lim)):Rep m w (.mp id) (.map (some b))
  | it {id b k lim:Nat} (h:m.blk id=some (b,k+2,lim)):Rep m w (.it id) (.pointer (some ⟨b,0,none⟩))
  | yld {id b lim:Nat} (h:m.blk id=some (b,4,lim)):Rep m w (.yld id) (.func (.yield b) #[] #[])
  | ept {cells:List PV} {off b o:Nat} (f:Nat→Value) (hr:m.ro b) (hc:∀ j c,cells[j]?=some c→w.cell? ⟨b,o+j,none⟩=some (f j))
      (h:∀ j c,cells[j]?=some c→Rep m w c (f j)):Rep m w (.ept cells off) (.pointer (some ⟨b,o+off,none⟩))
  | sl {id off len sz b lim cap:Nat} (h:m.blk id=some (b,0,lim)) (h1:len≤cap) (h2:cap≤maxLen) (h3:0+off+cap * sz≤lim) :
      Rep m w (.sl id off len sz) (.slice (some ⟨b,0+off,none⟩) len cap)
  | sl0 {id off sz:Nat} (a:Option Addr):Rep m w (.sl id off 0 sz) (.slice a 0 0)
  | tr {cells:List PV} {len sz b o cap:Nat} (f:Nat→Value) (hr:m.ro b) (hl:cells.length=len * sz) (h1:len≤cap) (h2:cap≤maxLen)
      (hc:∀ j c,cells[j]?=some c→w.cell? ⟨b,o+j,none⟩=some (f j)) (h:∀ j c,cells[j]?=some c→Rep m w c (f j)):Rep m w (.tr cells len sz) (.slice (some ⟨b,o,none⟩) len cap)
  | tr0 {sz cap:Nat} (a:Addr) (h2:cap≤maxLen):Rep m w (.tr [] 0 sz) (.slice (some a) 0 cap)
  | trn {sz:Nat}:Rep m w (.tr [] 0 sz) (.slice none 0 0)
  | fn {f:Fn} {cap:List PV} (vs:Array Value) (hl:vs.size=cap.length) (h:∀ j c,cap[j]?=some c→Rep m w c (vs.getD j undef)):Rep m w (.fn f cap) (.func f #[] vs)
  | agg {cells:List PV} (vs:Array Value) (hl:vs.size=cells.length) (h:∀ j c,cells[j]?=some c→Rep m w c (vs.getD j undef)):Rep m w (.agg cells) (.agg vs)
  | tup {cells:List PV} (vs:Array Value) (hl:vs.size=cells.length) (h:∀ j c,cells[j]?=some c→Rep m w c (vs.getD j undef)):Rep m w (.tup cells) (.tuple vs)
structure Le (m:Mp) (w:World) (m':Mp) (w':World):Prop where
  blk:∀ id x,m.blk id=some x→m'.blk id=some x
  ro:∀ b,m.ro b→m'.ro b
  keep:∀ b,m.keep b→m'.keep b
  same:∀ b,m.keep b→w'.heap[b]?=w.heap[b]?
  size:w.heap.size≤w'.heap.size
  os:w'.os=w.os
  tape:w'.tape=w.tape
  output:w'.output=w.output
  fresh:∀ b,m'.ro b→m.ro b∨¬ m.keep b
  top:m'.top=m.top
  old:∀ id,id < m.top→m'.blk id=m.blk id
theorem Le.refl (m:Mp) (w:World):Le m w m w:=⟨fun _ _ h=>h,fun _ h=>h,fun _ h=>h,fun _ _=>rfl,Nat.le_refl _,rfl,rfl,rfl,fun _ h=>.inl h,rfl,fun _ _=>rfl⟩
theorem Le.trans {m m1 m2:Mp} {w w1 w2:World} (h:Le m w m1 w1) (k:Le m1 w1 m2 w2):Le m w m2 w2 :=
  ⟨fun i x hx=>k.blk i x (h.blk i x hx),fun b hb=>k.ro b (h.ro b hb),fun b hb=>k.keep b (h.keep b hb),fun b hb=>(k.same b (h.keep b hb)).trans (h.same b hb),
    Nat.le_trans h.size k.size,k.os.trans h.os,k.tape.trans h.tape,k.output.trans h.output,
    fun b hb=>(k.fresh b hb).elim (fun h1=>h.fresh b h1) (fun h1=>.inr fun h2=>h1 (h.keep b h2)),
    k.top.trans h.top,fun id hid=>(k.old id (by rw [h.top];exact hid)).trans (h.old id hid)⟩
theorem Le.cell {m m':Mp} {w w':World} (h:Le m w m' w') {b o:Nat} (hb:m.keep b):w'.cell? ⟨b,o,none⟩=w.cell? ⟨b,o,none⟩ :=
  World.cell?_of_block (w:=w) (w':=w') (a:=⟨b,o,none⟩) (h.same b hb)
theorem Rep.mono' {m m':Mp} {w w':World} (hb:∀ id x,m.blk id=some x→m'.blk id=some x) (hro:∀ b,m.ro b→m'.ro b) (hcell:∀ (b o:Nat),m.ro b→w'.cell? ⟨b,o,none⟩=w.cell? ⟨b,o,none⟩) {p:PV} {v:Value} (r:Rep m w p v):Rep m' w' p v:=by
  induction r with
  | v x hx=>exact .v x hx
  | ptr h=>exact .ptr (hb _ _ h)
  | mp h=>exact .mp (hb _ _ h)
  | it h=>exact .it (hb _ _ h)
  | yld h=>exact .yld (hb _ _ h)
  | ept f hr hc _ ih=>exact .ept f (hro _ hr) (fun j c hj=>(hcell _ _ hr).trans (hc j c hj)) ih
  | sl h h1 h2 h3=>exact .sl (hb _ _ h) h1 h2 h3
  | sl0 a=>exact .sl0 a
  | tr f hr hl h1 h2 hc _ ih=>exact .tr f (hro _ hr) hl h1 h2 (fun j c hj=>(hcell _ _ hr).trans (hc j c hj)) ih
  | tr0 a h2=>exact .tr0 a h2
  | trn=>exact .trn
  | fn vs hl _ ih=>exact .fn vs hl ih
  | agg vs hl _ ih=>exact .agg vs hl ih
  | tup vs hl _ ih=>exact .tup vs hl ih
theorem Rep.mono {m m':Mp} {w w':World} (hk:∀ b,m.ro b→m.keep b) (h:Le m w m' w') {p:PV} {v:Value} (r:Rep m w p v):Rep m' w' p v :=
  r.mono' h.blk h.ro fun b _ hb=>h.cell (hk b hb)
def Xd3 (es:Array MapEntry) (clock:Nat):Array Value:=(Value.int .i64 clock::es.toList.flatMap fun e=>[e.key,e.val,.int .i64 e.born]).toArray
def XbT:Nat→Option Code
  | 0=>none
  | 1=>some .ret
  | k+2=>some (.exit k)
def XjC:Nat→LoopState
  | 0=>.ready
  | 1=>.busy
  | 2=>.done
  | _=>.exhausted
def XcT (o:Option Obj) (e:Elem) (cur:Array Value):Nat→Prop
  | 0=>o=some (.cells cur e.tid (0,0))
  | 1=>∃ es clock,o=some (.map es clock)∧cur=#[.func (.func 0) #[] (Xd3 es clock)]
  | 2=>∃ s pos,o=some (.stringIter s pos)∧cur=#[.func (.func 1) #[] #[.string s,.int .i64 (pos:Nat)]]
  | 3=>∃ b since seen last,o=some (.mapIter (some b) since seen last)∧cur=#[.func (.func 2) #[] (Value.map (some b)::.int .i64 (since:Nat)::.int .i64 (last:Nat)::seen.toList.map fun (n:Nat)=>.int .i64 n).toArray]
  | _=>∃ fn params assign body n ts tmps D s p,s≤3∧e=.loop fn params assign body n ts∧o=some (.loop { state:=XjC s,pending:=XbT p,fn,tmps,params,assign,body,defers:=D }) ∧
      tmps.size=n∧cur=#[.func (.func 3) #[] ((Value.int .i64 (s:Nat)::.int .i64 (p:Nat)::ts.map fun t=>tmps.getD t undef).toArray)]
theorem XcT.some {o:Option Obj} {e:Elem} {cur:Array Value} {d:Nat} (h:XcT o e cur d):o≠none:=by
  rintro rfl
  unfold XcT at h
  split at h
  · cases h
  · obtain ⟨_,_,h,_⟩:=h;cases h
  · obtain ⟨_,_,h,_⟩:=h;cases h
  · obtain ⟨_,_,_,_,h,_⟩:=h;cases h
  · obtain ⟨_,_,_,_,_,_,_,_,_,_,_,_,h,_⟩:=h;cases h
theorem Xny {p q:Nat} (h:XbT p=XbT q):p=q:=by
  unfold XbT at h
  split at h <;> split at h <;> first | rfl | (cases h;done) | (injection h with h;first | (cases h;rfl) | (injection h with h;omega))
theorem XrL {s r:Nat} (h1:s≤3) (h2:r≤3) (h:XjC s=XjC r):s=r :=
  (by decide:∀ s,s≤3→∀ r,r≤3→XjC s=XjC r→s=r) s h1 r h2 h
theorem XcT.uniq {o:Option Obj} {e:Elem} {cur cur':Array Value}:∀ {d:Nat},XcT o e cur d→XcT o e cur' d→cur'=cur
  | 0,h,k=>by
    have h:o=Option.some (.cells cur e.tid (0,0)):=h
    have k:o=Option.some (.cells cur' e.tid (0,0)):=k
    rw [h] at k;cases k;rfl
  | 1,⟨_,_,h1,h2⟩,⟨_,_,k1,k2⟩=>by rw [h1] at k1;cases k1;rw [h2,k2]
  | 2,⟨_,_,h1,h2⟩,⟨_,_,k1,k2⟩=>by rw [h1] at k1;cases k1;rw [h2,k2]
  | 3,⟨_,_,_,_,h1,h2⟩,⟨_,_,_,_,k1,k2⟩=>by rw [h1] at k1;cases k1;rw [h2,k2]
  | _+4,⟨_,_,_,_,_,_,_,_,s,p,h0,he,h1,_,h2⟩,⟨_,_,_,_,_,_,_,_,r,q,k0,ke,k1,_,k2⟩=>by
    rw [h1] at k1
    simp only [Option.some.injEq,Obj.loop.injEq,Loop.mk.injEq] at k1
    obtain ⟨e1,e2,_,e3,_⟩:=k1
    rw [he] at ke
    simp only [Elem.loop.injEq] at ke
    obtain ⟨_,_,_,_,_,e4⟩:=ke
    rw [h2,k2,XrL h0 k0 e1,Xny e2,e3,e4]
def Xep (m:Mp) (w:World) (B:Blk) (b d lim:Nat):Prop :=
  ∃ cur:Array Value,XcT w.heap[b]? B.elem cur d∧cur.size=lim∧0+B.cells.length≤lim ∧
    ∀ j c,B.cells[j]?=some c→∃ v,cur[0+j]?=some v∧Rep m w c v∧v.oneCell'=true
structure R (m:Mp) (H:Xi) (w:World):Prop where
  rk:∀ b,m.ro b→m.keep b
  kl:∀ b,m.keep b→b < w.heap.size
  dom:∀ id x,m.blk id=some x→id < H.length
  blk:∀ id B b d lim,H[id]?=some (some B)→m.blk id=some (b,d,lim)→True∧Xep m w B b d lim∧(B.own=true→¬ m.keep b)∧(B.own=false→m.ro b)
  inj:∀ i j B C bi di li bj dj lj,i≠j→H[i]?=some (some B)→H[j]?=some (some C)→B.own=true→C.own=true→m.blk i=some (bi,di,li)→m.blk j=some (bj,dj,lj)→bi≠bj
  top:m.top≤H.length
theorem R.nil {m:Mp} {w:World} (h1:∀ b,m.ro b→m.keep b) (h2:∀ b,m.keep b→b < w.heap.size) (h3:∀ id,m.blk id=none) (h4:m.top=0):R m [] w :=
  ⟨h1,h2,(fun id x h=>by rw [h3 id] at h;cases h),(fun id B _ _ _ h=>by simp at h),(fun i j B C _ _ _ _ _ _ _ h=>by simp at h),by simp [h4]⟩
theorem R.mono_rep {m:Mp} {H:Xi} {w:World} (h:R m H w) {m':Mp} {w':World} (hl:Le m w m' w') {p:PV} {v:Value} (r:Rep m w p v):Rep m' w' p v:=r.mono h.rk hl
theorem R.lt {m:Mp} {H:Xi} {w:World} (h:R m H w) {id b d lim:Nat} {B:Blk} (hi:H[id]?=some (some B)) (hm:m.blk id=some (b,d,lim)):b < w.heap.size:=by
  obtain ⟨_,⟨cur,hc,_⟩,_⟩:=h.blk id B b d lim hi hm
  rcases Nat.lt_or_ge b w.heap.size with hlt | hge
  · exact hlt
  · rw [Array.getElem?_eq_none hge] at hc;exact absurd rfl hc.some
theorem R.world {m:Mp} {H:Xi} {w w':World} (h:R m H w) (hs:w.heap.size≤w'.heap.size) (hos:w'.os=w.os) (ht:w'.tape=w.tape) (ho:w'.output=w.output)
    (hk:∀ b,m.keep b→w'.heap[b]?=w.heap[b]?) (hb:∀ id B b d lim,H[id]?=some (some B)→m.blk id=some (b,d,lim)→w'.heap[b]?=w.heap[b]?) :
    R m H w'∧Le m w m w':=by
  have hle:Le m w m w':=⟨fun _ _ h=>h,fun _ h=>h,fun _ h=>h,hk,hs,hos,ht,ho,fun _ h=>.inl h,rfl,fun _ _=>rfl⟩
  refine ⟨⟨h.rk,fun b hb=>Nat.lt_of_lt_of_le (h.kl b hb) hs,h.dom,fun id B b d lim hi hm=>?_,h.inj,h.top⟩,hle⟩
  obtain ⟨h0,⟨cur,hc,h1,h2,h3⟩,h4,h5⟩:=h.blk id B b d lim hi hm
  refine ⟨h0,⟨cur,by rw [hb id B b d lim hi hm];exact hc,h1,h2,fun j c hj=>?_⟩,h4,h5⟩
  obtain ⟨v,hv,hr,h1v⟩:=h3 j c hj
  exact ⟨v,hv,hr.mono h.rk hle,h1v⟩
theorem R.drew {m:Mp} {H:Xi} {w:World} (h:R m H w):R m H w.drew∧Le m w m w.drew :=
  h.world (Nat.le_refl _) rfl rfl rfl (fun _ _=>rfl) (fun _ _ _ _ _ _ _=>rfl)
theorem R.alloc_any {m:Mp} {H:Xi} {w:World} (h:R m H w) (o:Obj):R m H (w.alloc o)∧Le m w m (w.alloc o) :=
  h.world (by simp) rfl rfl rfl (fun b hb=>Below.heap_alloc w o b (h.kl b hb)) (fun id B b d lim hi hm=>Below.heap_alloc w o b (h.lt hi hm))
theorem XQ {H:Xi} {id i:Nat} {x y:Option Blk} (h:(H.set id x)[i]?=some y):(i=id∧y=x)∨(i≠id∧H[i]?=some y):=by
  by_cases e:i=id
  · subst e
    rw [List.getElem?_set_self'] at h
    cases hh:H[i]? with
    | none=>rw [hh] at h;simp at h
    | some z=>rw [hh] at h;simp at h;exact .inl ⟨rfl,h.symm⟩
  · rw [List.getElem?_set_ne (fun e'=>e e'.symm)] at h
    exact .inr ⟨e,h⟩
theorem R.kill {m:Mp} {H:Xi} {w:World} (h:R m H w) (id:Nat):R m (H.set id none) w:=by
  refine ⟨h.rk,h.kl,fun i x hx=>by simpa using h.dom i x hx,fun i B b d lim hi hm=>?_,fun i j B C bi di li bj dj lj hne hi hj=>?_,by simpa using h.top⟩
  · rcases XQ hi with ⟨_,e⟩ | ⟨_,e⟩
    · cases e
    · exact h.blk i B b d lim e hm
  · rcases XQ hi with ⟨_,e⟩ | ⟨_,ei⟩
    · cases e
    · rcases XQ hj with ⟨_,e⟩ | ⟨_,ej⟩
      · cases e
      · exact h.inj i j B C bi di li bj dj lj hne ei ej
theorem Xdx {H:Xi} {i:Nat} {B:Blk} (hi:(H++[none])[i]?=some (some B)):H[i]?=some (some B):=by
  rcases Nat.lt_or_ge i H.length with hlt | hge
  · rwa [List.getElem?_append_left hlt] at hi
  · rw [List.getElem?_append_right hge] at hi
    cases hk:i - H.length with
    | zero=>rw [hk] at hi;simp at hi
    | succ k=>rw [hk] at hi;simp at hi
theorem R.ext {m:Mp} {H:Xi} {w:World} (h:R m H w) (x:Nat × Nat × Nat) :
    R { m with blk:=fun i=>if i=H.length then some x else m.blk i } (H++[none]) w∧Le m w { m with blk:=fun i=>if i=H.length then some x else m.blk i } w:=by
  have hle:Le m w { m with blk:=fun i=>if i=H.length then some x else m.blk i } w :=
    ⟨fun i y hy=>by
      have:=h.dom i y hy
      show (if i=H.length then some x else m.blk i)=some y
      rw [if_neg (by omega)];exact hy,fun _ h=>h,fun _ h=>h,fun _ _=>rfl,Nat.le_refl _,rfl,rfl,rfl,fun _ h=>.inl h,rfl,fun id hid=>by
      have:=h.top
      show (if id=H.length then some x else m.blk id)=m.blk id
      rw [if_neg (by omega)]⟩
  have old:∀ i B y,(H++[none])[i]?=some (some B)→(if i=H.length then some x else m.blk i)=some y→m.blk i=some y:=fun i B y hi hy=>by
    have:=(List.getElem?_eq_some_iff.1 (Xdx hi)).1
    rwa [if_neg (by omega)] at hy
  refine ⟨⟨h.rk,h.kl,fun i y hy=>?_,fun i B b d lim hi hm=>?_,fun i j B C bi di li bj dj lj hne hi hj ho1 ho2 hmi hmj=>?_,by have:=h.top;simp only [List.length_append,List.length_cons,List.length_nil];omega⟩,hle⟩
  · simp only [List.length_append,List.length_cons,List.length_nil]
    by_cases e:i=H.length
    · omega
    · have hy':m.blk i=some y:=by simpa [e] using hy
      have:=h.dom i y hy'
      omega
  · obtain ⟨h0,⟨cur,h1,h2,h3,h4⟩,h5⟩:=h.blk i B b d lim (Xdx hi) (old i B _ hi hm)
    exact Zc7
  · exact Zc8
theorem R.put {m:Mp} {H:Xi} {w:World} (h:R m H w) {id b d lim:Nat} (B:Blk) (hm:m.blk id=some (b,d,lim)) (hB:Xep m w B b d lim) (ho:B.own=true) (hk:¬ m.keep b)
    (hfree:∀ i C di li,i≠id→H[i]?=some (some C)→C.own=true→m.blk i≠some (b,di,li)):R m (H.set id (some B)) w:=by
  refine ⟨h.rk,h.kl,fun i x hx=>by simpa using h.dom i x hx,fun i C b' d' lim' hi hm'=>?_,fun i j C D bi di li bj dj lj hne hi hj ho1 ho2 hmi hmj=>?_,by simpa using h.top⟩
  · rcases XQ hi with ⟨e1,e⟩ | ⟨_,e⟩
    · cases e;subst e1
      rw [hm] at hm';cases hm'
      exact ⟨trivial,hB,fun _=>hk,fun e=>by rw [ho] at e;cases e⟩
    · exact h.blk i C b' d' lim' e hm'
  · rcases XQ hi with ⟨e1,e⟩ | ⟨n1,ei⟩
    · rcases XQ hj with ⟨e2,_⟩ | ⟨n2,ej⟩
      · omega
      · subst e1
        rw [hm] at hmi;cases hmi
        rintro rfl
        exact hfree j D dj lj n2 ej ho2 hmj
    · rcases XQ hj with ⟨e2,e⟩ | ⟨n2,ej⟩
      · subst e2
        rw [hm] at hmj;cases hmj
        rintro rfl
        exact hfree i C di li n1 ei ho1 hmi
      · exact h.inj i j C D bi di li bj dj lj hne ei ej ho1 ho2 hmi hmj
theorem R.add {m:Mp} {H:Xi} {w:World} (h:R m H w) (B:Blk) {b d lim:Nat} (hB:Xep m w B b d lim) (ho:B.own=true) (hk:¬ m.keep b)
    (hfree:∀ i C di li,H[i]?=some (some C)→C.own=true→m.blk i≠some (b,di,li)) :
    R { m with blk:=fun i=>if i=H.length then some (b,d,lim) else m.blk i } (H++[some B]) w∧Le m w { m with blk:=fun i=>if i=H.length then some (b,d,lim) else m.blk i } w:=by
  obtain ⟨h1,hle⟩:=h.ext (b,d,lim)
  refine ⟨?_,hle⟩
  have h2:=h1.put (id:=H.length) (b:=b) (d:=d) (lim:=lim) B (by simp) ?_ ho hk ?_
  · have e:(H++[none]).set H.length (some B)=H++[some B]:=by
      rw [List.set_append_right _ _ (Nat.le_refl _)]
      simp
    rwa [e] at h2
  · obtain ⟨cur,a1,a2,a3,a4⟩:=hB
    exact Zc9
  · intro i C di li hne hi hown hmi
    have hi':H[i]?=some (some C):=by
      rcases Nat.lt_or_ge i H.length with hlt | hge
      · rwa [List.getElem?_append_left hlt] at hi
      · have:i < (H++[none]).length:=(List.getElem?_eq_some_iff.1 hi).1
        simp at this
        omega
    have hmi':m.blk i=some (b,di,li):=by simpa [hne] using hmi
    exact hfree i C di li hi' hown hmi'
theorem R.ghost {m:Mp} {H:Xi} {w:World} (h:R m H w) (B:Blk):R m (H++[some B]) w:=by
  have live:∀ i C x,(H++[some B])[i]?=some (some C)→m.blk i=some x→H[i]?=some (some C):=fun i C x hi hm=>by
    have:=h.dom i x hm
    rwa [List.getElem?_append_left this] at hi
  refine ⟨h.rk,h.kl,fun i x hx=>?_,fun i C b d lim hi hm=>h.blk i C b d lim (live i C _ hi hm) hm,fun i j C D bi di li bj dj lj hne hi hj ho1 ho2 hmi hmj=>?_,by have:=h.top;simp only [List.length_append,List.length_cons,List.length_nil];omega⟩
  · have:=h.dom i x hx
    simp only [List.length_append,List.length_cons,List.length_nil]
    omega
  · exact Zda
theorem R.new {m:Mp} {H:Xi} {w:World} (h:R m H w) (cells:List PV) (e:TypeId) (cur:Array Value) (hlen:cells.length≤cur.size)
    (hr:∀ (j:Nat) (c:PV),cells[j]?=some c→∃ v:Value,cur[j]?=some v∧Rep m w c v∧v.oneCell'=true) :
    R { m with blk:=fun i=>if i=H.length then some (w.heap.size,0,cur.size) else m.blk i } (H++[some ⟨cells,e,true⟩]) (w.alloc (.cells cur e)) ∧
    Le m w { m with blk:=fun i=>if i=H.length then some (w.heap.size,0,cur.size) else m.blk i } (w.alloc (.cells cur e)):=by
  obtain ⟨h1,hle1⟩:=h.alloc_any (.cells cur e)
  have hB:Xep m (w.alloc (.cells cur e)) ⟨cells,e,true⟩ w.heap.size 0 cur.size:=by
    refine ⟨cur,heap_alloc_new w _,rfl,by simpa using hlen,fun j c hj=>?_⟩
    obtain ⟨v,hv,hr',h1v⟩:=hr j c hj
    exact Zcd
  have h2:=h1.add ⟨cells,e,true⟩ hB rfl (fun hk=>by
      have:=h.kl _ hk;omega) (fun i C di li hi _ hmi=>by have:=h.lt hi hmi;omega)
  exact ⟨h2.1,hle1.trans h2.2⟩
end Go.Th
namespace Go.Th
open Go.RowKit
abbrev Env:=List (Nat × PV)
def Env.get:Env→Nat→Option PV
  | [],_=>none
  | (k,p)::r,t=>match Nat.beq k t with
    | true=>some p
    | false=>Env.get r t
def Env.ev (E:Env):Operand→Option PV
  | .tmp t=>E.get t
  | .const x=>match Xfd x with | true=>some (.v x) | false=>none
  | .global g=>some (.v (.pointer (some ⟨g,0,none⟩)))
  | .func f=>some (.fn (.func f) [])
def FR (m:Mp) (w:World) (E:Env) (a:Act):Prop:=∀ t p,E.get t=some p→Rep m w p (a.tmps.getD t undef)
theorem FR.mono {m m':Mp} {w w':World} {E:Env} {a:Act} (hk:∀ b,m.ro b→m.keep b) (hl:Le m w m' w') (h:FR m w E a):FR m' w' E a :=
  fun t p ht=>(h t p ht).mono hk hl
theorem Env.get_cons (k t:Nat) (p:PV) (E:Env):Env.get ((k,p)::E) t=if k=t then some p else E.get t:=by
  simp only [Env.get]
  cases h:Nat.beq k t with
  | true=>simp [Nat.eq_of_beq_eq_true h]
  | false =>
    have:k≠t:=fun e=>by rw [e] at h;simp at h
    simp [this]
theorem FR.put {m:Mp} {w:World} {E:Env} {a:Act} (h:FR m w E a) {d:Nat} (hd:d < a.tmps.size) {p:PV} {v:Value} (hr:Rep m w p v):FR m w ((d,p)::E) (a.put (some d) v):=by
  intro t q ht
  rw [Env.get_cons] at ht
  by_cases e:d=t
  · subst e
    rw [if_pos rfl] at ht
    cases ht
    simpa [Act.put,Array.getD_eq_getD_getElem?,hd] using hr
  · rw [if_neg e] at ht
    have:=h t q ht
    simpa [Act.put,Array.getD_eq_getD_getElem?,Array.getElem?_setIfInBounds_ne e] using this
theorem FR.ev {m:Mp} {w:World} {E:Env} {a:Act} (h:FR m w E a) {x:Operand} {p:PV} (hx:E.ev x=some p):Rep m w p (a.eval x):=by
  cases x with
  | tmp t=>exact h t p hx
  | const v =>
    simp only [Env.ev] at hx
    split at hx
    · rename_i hn;cases hx;exact .v v hn
    · cases hx
  | global g=>simp only [Env.ev] at hx;cases hx;exact .v _ rfl
  | func f=>simp only [Env.ev] at hx;cases hx;exact .fn #[] rfl (fun j c hj=>by simp at hj)
def fen:Option Nat→Fence
  | none=>Fence.wide
  | some l=>Fence.wide.inRound l
theorem Xb6 (rd:Option Nat) (f:FuncId):(fen rd).fn f:=by cases rd <;> trivial
theorem XcP (rd:Option Nat):(fen rd).depth.isSome=true→1≤0:=by cases rd <;> (intro h;cases h)
theorem Xg0 (rd:Option Nat):(fen rd).round=rd:=by cases rd <;> rfl
theorem Xeb {rd:Option Nat} {k:Nat} {P:Program} {f:FuncId} {args:Array Value} {w:World} {R:Ending→World→Prop} (h:Calls P f args w R):CallsIn (fen rd) k P f args w R:=by
  have h:=(callsIn_wide (n:=k)).2 h
  cases rd <;> exact h
theorem Xgf {P:Program} {rd:Option Nat} {ρ:Operand→Value} {o:Oper} {r:Next} {w w':World} (h:(execOp ρ o).run P w=.ok r w') (hr:∀ d,r≠.defer d):Oper.semAt rd ρ o=execOp ρ o:=by
  refine Oper.semAt_eq _ _ _ fun c hc=>?_
  simp only [execOp,hc,Sem.run_bind] at h
  cases hx:(resolve ρ c o.type).run P w with
  | ok d w1=>rw [hx] at h;simp at h;exact hr _ h.1.symm
  | halt x w1=>rw [hx] at h;simp at h
section
variable {P:Program} {rd:Option Nat} {o:Oper} {a:Act} {w w':World} {K:Act→World→Prop} {Q:Exit→Act→World→Prop}
theorem Xdu {v:Value} (h:(execOp a.eval o).run P w=.ok (.value v) w') (k:K (a.put o.dst v) w'):o.wpIn (fen rd) 0 P a w K Q:=by
  refine ⟨fun f _=>Xb6 rd f,?_⟩
  rw [Xgf h (fun d=>by simp),h,Oper.uponIn_value]
  exact k
theorem Xo9 (h:(execOp a.eval o).run P w=.ok .skip w') (k:K (a.put o.dst undef) w'):o.wpIn (fen rd) 0 P a w K Q:=by
  refine ⟨fun f _=>Xb6 rd f,?_⟩
  rw [Xgf h (fun d=>by simp),h,Oper.uponIn_skip]
  exact k
theorem Xgi {f:FuncId} {args:Array Value} (h:(execOp a.eval o).run P w=.ok (.enter f args) w') (k:Calls P f args w' fun e w''=>∃ v,e=.returned v∧K (a.put o.dst v) w''):o.wpIn (fen rd) 0 P a w K Q:=by
  refine ⟨fun f _=>Xb6 rd f,?_⟩
  rw [Xgf h (fun d=>by simp),h,Oper.uponIn_enter]
  refine ⟨XcP rd,Xeb (k.mono ?_)⟩
  rintro e w'' ⟨v,rfl,hk⟩
  exact hk
end
def LeD (m0:Mp) (w0:World) (m:Mp) (w:World) (ds:List Deferred):Prop :=
  Le m0 w0 m w∧∃ bs:List Nat,bs.Nodup∧ds=bs.map (fun b=>{ target:=.collected b,args:=#[] })∧∀ b ∈ bs,m.keep b∧¬ m0.keep b∧w.heap[b]?=some (.deferred (some []))
theorem LeD.le {m0 m:Mp} {w0 w:World} {ds:List Deferred} (h:LeD m0 w0 m w ds):Le m0 w0 m w:=h.1
theorem LeD.trans {m0 m m':Mp} {w0 w w':World} {ds:List Deferred} (h:LeD m0 w0 m w ds) (k:Le m w m' w'):LeD m0 w0 m' w' ds :=
  let ⟨bs,h1,h2,h3⟩:=h.2;⟨h.1.trans k,bs,h1,h2,fun b hb=>let ⟨a1,a2,a3⟩:=h3 b hb;⟨k.keep b a1,a2,(k.same b a1).trans a3⟩⟩
theorem LeD.top {m0 m:Mp} {w0 w:World} {ds:List Deferred} (h:LeD m0 w0 m w ds):m.top=m0.top:=h.1.top
theorem LeD.refl (m:Mp) (w:World):LeD m w m w []:=⟨Le.refl m w,[],List.nodup_nil,rfl,fun b hb=>by simp at hb⟩
theorem LeD.put {m0 m:Mp} {w0 w:World} {a:Act} {d:Option Nat} {v:Value} (h:LeD m0 w0 m w a.defers):LeD m0 w0 m w (a.put d v).defers:=by cases d <;> exact h
def RdK (rd:Option Nat) (m0:Mp) (w0:World):Prop:=∀ l,rd=some l→m0.keep l∧∃ r,w0.heap[l]?=some (.loop r)
theorem RdK.none (m0:Mp) (w0:World):RdK .none m0 w0:=fun l h=>by cases h
def At (rd:Option Nat) (m0:Mp) (w0:World) (n:Nat) (E:Env) (H:Xi) (a:Act) (w:World):Prop :=
  a.tmps.size=n∧RdK rd m0 w0∧∃ m,LeD m0 w0 m w a.defers∧R m H w∧FR m w E a
abbrev QA:=Exit→Env→Xi→Prop
def Qr (rd:Option Nat) (m0:Mp) (w0:World) (n:Nat) (Q:QA):Exit→Act→World→Prop:=fun e a w=>∃ E H,Q e E H∧At rd m0 w0 n E H a w
def wpA (P:Program) (n:Nat) (c:Code) (Q:QA) (E:Env) (H:Xi):Prop :=
  ∀ rd m0 w0 a w,At rd m0 w0 n E H a w→c.wpIn (fen rd) 0 P (Qr rd m0 w0 n Q) a w
def wpL (P:Program) (n:Nat) (ops:Array Oper) (l:List Oper) (Q:QA) (E:Env) (H:Xi):Prop :=
  ∀ rd m0 w0 a w,At rd m0 w0 n E H a w→wpListIn (fen rd) 0 P ops (Qr rd m0 w0 n Q) l a w
def XeC (K:Env→Xi→Prop) (Q:QA):QA
  | .normal,E,H=>K E H
  | e,E,H=>Q e E H
def Xdz (id:Nat) (Q:QA):QA
  | .exit id',E,H=>if id'=id then Q .normal E H else Q (.exit id') E H
  | e,E,H=>Q e E H
section
variable {P:Program} {n:Nat} {Q:QA} {E:Env} {H:Xi}
theorem Xaf {x y:Code} (h:wpA P n x (XeC (wpA P n y Q) Q) E H):wpA P n (.seq x y) Q E H:=fun rd m0 w0 a w hat =>
  wpIn_seq (wpIn_mono (h rd m0 w0 a w hat) (by
    rintro e a' w' ⟨E',H',hq,hat'⟩
    cases e with
    | normal=>exact hq rd m0 w0 a' w' hat'
    | exit id=>exact ⟨E',H',hq,hat'⟩
    | goto l=>exact ⟨E',H',hq,hat'⟩
    | ret=>exact ⟨E',H',hq,hat'⟩
    | panic c=>exact ⟨E',H',hq,hat'⟩
    | outgrown=>exact ⟨E',H',hq,hat'⟩))
theorem Xk0 {x y:Code} (M:Env→Xi→Prop) (h:wpA P n x (XeC M Q) E H) (k:∀ E' H',M E' H'→wpA P n y Q E' H'):wpA P n (.seq x y) Q E H:=fun rd m0 w0 a w hat =>
  wpIn_seq (wpIn_mono (h rd m0 w0 a w hat) (by
    rintro e a' w' ⟨E',H',hq,hat'⟩
    cases e with
    | normal=>exact k E' H' hq rd m0 w0 a' w' hat'
    | exit id=>exact ⟨E',H',hq,hat'⟩
    | goto l=>exact ⟨E',H',hq,hat'⟩
    | ret=>exact ⟨E',H',hq,hat'⟩
    | panic c=>exact ⟨E',H',hq,hat'⟩
    | outgrown=>exact ⟨E',H',hq,hat'⟩))
theorem XiE (h:Q .normal E H):wpA P n .skip Q E H:=fun _ _ _ _ _ hat=>wpIn_skip ⟨E,H,h,hat⟩
theorem Xmf {id:Nat} (h:Q (.exit id) E H):wpA P n (.exit id) Q E H:=fun _ _ _ _ _ hat=>wpIn_exit ⟨E,H,h,hat⟩
theorem Xk1 (h:Q .ret E H):wpA P n .ret Q E H:=fun _ _ _ _ _ hat=>wpIn_ret ⟨E,H,h,hat⟩
theorem XjI {id:Nat} {c:Code} (h:wpA P n c (Xdz id Q) E H):wpA P n (.block id c) Q E H:=fun rd m0 w0 a w hat =>
  wpIn_block (wpIn_mono (h rd m0 w0 a w hat) (by
    rintro e a' w' ⟨E',H',hq,hat'⟩
    cases e with
    | exit id' =>
      by_cases e:id'=id
      · simp only [Exit.inBlock,e,if_true];simp only [Xdz,e,if_true] at hq;exact ⟨E',H',hq,hat'⟩
      · simp only [Exit.inBlock,e,if_false];simp only [Xdz,e,if_false] at hq;exact ⟨E',H',hq,hat'⟩
    | normal=>exact ⟨E',H',hq,hat'⟩
    | goto l=>exact ⟨E',H',hq,hat'⟩
    | ret=>exact ⟨E',H',hq,hat'⟩
    | panic c=>exact ⟨E',H',hq,hat'⟩
    | outgrown=>exact ⟨E',H',hq,hat'⟩))
theorem XiF {c:Operand} {x y:Code} {t:Bool} (hc:E.ev c=some (.v (.bool t))) (h1:t=true→wpA P n x Q E H) (h2:t=false→wpA P n y Q E H):wpA P n (.cond c x y) Q E H:=by
  intro rd m0 w0 a w hat
  have hat0:=hat
  obtain ⟨_,_,m,_,_,hf⟩:=hat0
  have hr:=hf.ev hc
  have he:a.eval c=.bool t:=by generalize a.eval c=v at hr;cases hr;rfl
  refine wpIn_cond_split he (fun ht=>h1 ht rd m0 w0 a w hat) (fun ht=>h2 ht rd m0 w0 a w hat)
theorem XcG {F:Fence} {n:Nat} {P:Program} {c:Code} {Q:Exit→Act→World→Prop} {a:Act} {w:World} (J:Nat→Act→World→Prop) {k:Nat} (h0:J k a w)
    (round:∀ k a w,J k a w→c.wpIn F n P (Exit.then (fun a' w'=>∃ k',k' < k∧J k' a' w') Q) a w):(Code.loop c).wpIn F n P Q a w:=by
  intro b kk cs hro hb hr
  have key:∀ j a w,J j a w→∃ e a' w',Q e a' w'∧ArrivesIn (Machine.fenced P F) P (lone (b.atR a (.code c::.inLoop c::kk)) cs w) b kk cs e a' w':=by
    intro j
    induction j using Nat.strongRecOn with
    | _ j ih =>
      intro a w hI
      obtain ⟨e,a₁,w₁,hq,harr⟩:=round j a w hI b (.inLoop c::kk) cs hro hb hr
      cases e with
      | normal =>
        obtain ⟨k',hlt,hI₁⟩:=hq
        obtain ⟨e₂,a₂,w₂,hq₂,harr₂⟩:=ih k' hlt a₁ w₁ hI₁
        exact Zdb
      | exit id=>exact ⟨_,a₁,w₁,hq,.pass (x:=.inLoop c) rfl (fun _ _=>.inl (by simp)) harr⟩
      | goto l=>exact ⟨_,a₁,w₁,hq,.pass (x:=.inLoop c) rfl (fun _ _=>.inl (by simp)) harr⟩
      | ret=>exact ⟨_,a₁,w₁,hq,.pass (x:=.inLoop c) rfl (fun _ _=>.inl (by simp)) harr⟩
      | panic ch=>exact ⟨_,a₁,w₁,hq,.pass (x:=.inLoop c) rfl (fun _ _=>.inl (by simp)) harr⟩
      | outgrown=>exact ⟨_,a₁,w₁,hq,.pass (x:=.inLoop c) rfl (fun _ _=>.inl (by simp)) harr⟩
  obtain ⟨e,a',w',hq,harr⟩:=key _ a w h0
  exact ⟨e,a',w',hq,.of_steps (.one (fenced_calm hb hr rfl) stepR_loop) harr⟩
theorem XqU {c:Code} (I:Nat→Env→Xi→Prop) {k:Nat} (h0:I k E H)
    (round:∀ k E H,I k E H→wpA P n c (XeC (fun E' H'=>∃ k',k' < k∧I k' E' H') Q) E H):wpA P n (.loop c) Q E H:=by
  intro rd m0 w0 a w hat
  refine XcG (fun k a w=>∃ E H,I k E H∧At rd m0 w0 n E H a w) ⟨E,H,h0,hat⟩ ?_
  rintro k a w ⟨E1,H1,hI,hat1⟩
  refine wpIn_mono (round k E1 H1 hI rd m0 w0 a w hat1) ?_
  rintro e a' w' ⟨E',H',hq,hat'⟩
  cases e with
  | normal =>
    obtain ⟨k',hlt,hi⟩:=hq
    exact ⟨k',hlt,E',H',hi,hat'⟩
  | exit id=>exact ⟨E',H',hq,hat'⟩
  | goto l=>exact ⟨E',H',hq,hat'⟩
  | ret=>exact ⟨E',H',hq,hat'⟩
  | panic c=>exact ⟨E',H',hq,hat'⟩
  | outgrown=>exact ⟨E',H',hq,hat'⟩
theorem At.weaken {rd:Option Nat} {m0:Mp} {w0:World} {E':Env} {a:Act} {w:World} (h:At rd m0 w0 n E H a w) (he:∀ t p,E'.get t=some p→E.get t=some p):At rd m0 w0 n E' H a w:=by
  obtain ⟨h1,h2,m,h3,h4,h5⟩:=h
  exact ⟨h1,h2,m,h3,h4,fun t p ht=>h5 t p (he t p ht)⟩
def Env.only (E:Env):List Nat→Env
  | []=>[]
  | t::r=>match E.get t with
    | some p=>(t,p)::Env.only E r
    | none=>Env.only E r
theorem Env.only_get (E:Env):∀ (l:List Nat) t p,(E.only l).get t=some p→E.get t=some p
  | [],t,p,h=>by simp [Env.only,Env.get] at h
  | x::r,t,p,h=>by
    simp only [Env.only] at h
    split at h
    · rename_i q hq
      rw [Env.get_cons] at h
      by_cases e:x=t
      · subst e;rw [if_pos rfl] at h;cases h;exact hq
      · rw [if_neg e] at h;exact Env.only_get E r t p h
    · exact Env.only_get E r t p h
theorem Xeq {c:Code} {E':Env} (he:∀ t p,E'.get t=some p→E.get t=some p) (h:wpA P n c Q E' H):wpA P n c Q E H:=fun rd m0 w0 a w hat =>
  h rd m0 w0 a w (hat.weaken he)
theorem Xme {c:Code} {Q':QA} (h:wpA P n c Q E H) (hq:∀ e E H,Q e E H→Q' e E H):wpA P n c Q' E H:=fun rd m0 w0 a w hat =>
  wpIn_mono (h rd m0 w0 a w hat) (by rintro e a' w' ⟨E',H',h1,h2⟩;exact ⟨E',H',hq _ _ _ h1,h2⟩)
theorem Xer {id:Nat} {l:List Oper} (h:wpL P n l.toArray l Q E H):wpA P n (.region id l.toArray false) Q E H:=fun rd m0 w0 a w hat =>
  wpIn_region_lit (h rd m0 w0 a w hat)
theorem Xoo {ops:Array Oper} (h:Q .normal E H):wpL P n ops [] Q E H:=fun _ _ _ _ _ hat=>wpListIn_nil ⟨E,H,h,hat⟩
end
def OpV (P:Program) (o:Oper) (E:Env) (H:Xi) (p:PV):Prop :=
  ∀ m w (ρ:Operand→Value),R m H w→(∀ x q,E.ev x=some q→Rep m w q (ρ x))→∃ v,(execOp ρ o).run P w=.ok (.value v) w∧Rep m w p v
def OpW (P:Program) (o:Oper) (E:Env) (H:Xi) (p:PV) (H':Xi):Prop :=
  ∀ m w (ρ:Operand→Value),R m H w→(∀ x q,E.ev x=some q→Rep m w q (ρ x))→∃ v m' w',(execOp ρ o).run P w=.ok (.value v) w'∧Le m w m' w'∧R m' H' w'∧Rep m' w' p v
def OpS (P:Program) (o:Oper) (E:Env) (H H':Xi):Prop :=
  ∀ m w (ρ:Operand→Value),R m H w→(∀ x q,E.ev x=some q→Rep m w q (ρ x))→∃ m' w',(execOp ρ o).run P w=.ok .skip w'∧Le m w m' w'∧R m' H' w'
section
variable {P:Program} {n:Nat} {Q:QA} {E:Env} {H:Xi} {ops:Array Oper} {rest:List Oper}
theorem Xfs {o:Oper} {d:Nat} {p:PV} {H':Xi} (hg:o.guard=none) (hd:o.dst=some d) (hn:d < n) (h:OpW P o E H p H') (k:wpL P n ops rest Q ((d,p)::E) H'):wpL P n ops (o::rest) Q E H:=by
  rintro rd m0 w0 a w ⟨h1,h2,m,h3,h4,h5⟩
  refine wpListIn_plain hg fun K hK=>?_
  obtain ⟨v,m',w',hrun,hle,hR,hr⟩:=h m w a.eval h4 (fun x q hx=>h5.ev hx)
  refine Xdu hrun ?_
  rw [hd]
  have:=k rd m0 w0 (a.put (some d) v) w' ⟨by simp [Act.put,h1],h2,m',h3.trans hle,hR,(h5.mono h4.rk hle).put (by omega) hr⟩
  exact hK _ _ this
theorem Xn {o:Oper} {d:Nat} {p:PV} (hg:o.guard=none) (hd:o.dst=some d) (hn:d < n) (h:OpV P o E H p) (k:wpL P n ops rest Q ((d,p)::E) H):wpL P n ops (o::rest) Q E H :=
  Xfs hg hd hn (fun m w ρ hR hρ=>let ⟨v,h1,h2⟩:=h m w ρ hR hρ;⟨v,m,w,h1,Le.refl m w,hR,h2⟩) k
theorem Xon {o:Oper} {H':Xi} (hg:o.guard=none) (hd:o.dst=none) (h:OpS P o E H H') (k:wpL P n ops rest Q E H'):wpL P n ops (o::rest) Q E H:=by
  rintro rd m0 w0 a w ⟨h1,h2,m,h3,h4,h5⟩
  refine wpListIn_plain hg fun K hK=>?_
  obtain ⟨m',w',hrun,hle,hR⟩:=h m w a.eval h4 (fun x q hx=>h5.ev hx)
  refine Xo9 hrun ?_
  rw [hd]
  exact hK _ _ (k rd m0 w0 a w' ⟨h1,h2,m',h3.trans hle,hR,h5.mono h4.rk hle⟩)
theorem Xtt {o og:Oper} {j dj d:Nat} {want b:Bool} (hg:o.guard=some (j,want)) (hj:ops[j]?=some og) (hdj:og.dst=some dj) (hb:E.get dj=some (.v (.bool b))) (hd:o.dst=some d) (hn:d < n)
    (h1:b=want→wpL P n ops ({ o with guard:=none }::rest) Q E H) (h2:b≠want→wpL P n ops rest Q ((d,.v undef)::E) H):wpL P n ops (o::rest) Q E H:=by
  intro rd m0 w0 a w hat
  have hat0:=hat
  obtain ⟨a1,a2,m,a3,a4,a5⟩:=hat
  have hr:=a5 dj _ hb
  have he:a.tmps.getD dj undef=.bool b:=by generalize a.tmps.getD dj undef=v at hr;cases hr;rfl
  have hlt:dj < a.tmps.size:=by
    rcases Nat.lt_or_ge dj a.tmps.size with h | h
    · exact h
    · rw [Array.getD_eq_getD_getElem?,Array.getElem?_eq_none h] at he;simp [undef] at he
  have hy:yielded ops a.tmps j=some b:=by
    have:a.tmps[dj]?=some (.bool b):=by
      rw [Array.getD_eq_getD_getElem?,Array.getElem?_eq_getElem hlt] at he
      rw [Array.getElem?_eq_getElem hlt]
      simpa using he
    simp [yielded,hj,hdj,this]
  by_cases e:b=want
  · have hw:Region.wanted o (yielded ops a.tmps)=true:=by simp [Region.wanted,hg,hy,e]
    have:=h1 e rd m0 w0 a w hat0
    unfold wpListIn at this ⊢
    rw [if_pos (by simp [Region.wanted])] at this
    rw [if_pos hw]
    exact this
  · have hw:Region.wanted o (yielded ops a.tmps)=false:=by simp [Region.wanted,hg,hy,e]
    unfold wpListIn
    rw [hw,if_neg (by simp),hd]
    refine ⟨fun f _=>Xb6 rd f,?_⟩
    exact h2 e rd m0 w0 _ w ⟨by simp [Act.put,a1],a2,m,a3,a4,a5.put (by omega) (.v _ rfl)⟩
end
def Xek (m:Mp) (w:World) (ps:List PV) (vs:Array Value):Prop:=vs.size=ps.length∧∀ (j:Nat) (c:PV),ps[j]?=some c→Rep m w c (vs.getD j undef)
def AC (P:Program) (f:FuncId) (args:List PV) (H:Xi) (Q:PV→Xi→Prop):Prop :=
  (∃ fn,P.funcs[f]?=some fn∧(fn.name == "runtime.NumGoroutine")=false∧fn.body.isNone=false) ∧
  ∀ m w vals,R m H w→Xek m w args vals→Calls P f vals w fun e w'=>∃ v p H' m',e=.returned v∧Q p H'∧Rep m' w' p v∧R m' H' w'∧Le m w m' w'
theorem AC.mono {P:Program} {f:FuncId} {args:List PV} {H:Xi} {Q Q':PV→Xi→Prop} (h:AC P f args H Q) (hq:∀ p H',Q p H'→Q' p H'):AC P f args H Q' :=
  ⟨h.1,fun m w vals h1 h2=>(h.2 m w vals h1 h2).mono fun _ _ ⟨v,p,H',m',a,b,c⟩=>⟨v,p,H',m',a,hq _ _ b,c⟩⟩
def evs (E:Env):List Operand→Option (List PV)
  | []=>some []
  | x::r=>match E.ev x with
    | some p=>match evs E r with
      | some ps=>some (p::ps)
      | none=>none
    | none=>none
theorem XcQ {m:Mp} {w:World} {E:Env} {ρ:Operand→Value} (hρ:∀ x q,E.ev x=some q→Rep m w q (ρ x)):∀ (l:List Operand) (ps:List PV),evs E l=some ps →
    ps.length=l.length∧∀ (j:Nat) (c:PV),ps[j]?=some c→Rep m w c ((l.map ρ).getD j undef)
  | [],ps,h=>by simp [evs] at h;subst h;simp
  | x::r,ps,h=>by
    simp only [evs] at h
    split at h
    · rename_i p hp
      split at h
      · rename_i qs hq
        cases h
        obtain ⟨h1,h2⟩:=XcQ hρ r qs hq
        refine ⟨by simp [h1],fun j c hj=>?_⟩
        cases j with
        | zero=>simp at hj;subst hj;simpa using hρ x p hp
        | succ j=>simpa using h2 j c (by simpa using hj)
      · cases h
    · cases h
theorem Xek.append {m:Mp} {w:World} {ps qs:List PV} {vs us:Array Value} (h:Xek m w ps vs) (k:Xek m w qs us):Xek m w (ps++qs) (vs++us):=by
  refine ⟨by simp [h.1,k.1],fun j c hj=>?_⟩
  rcases Nat.lt_or_ge j ps.length with hlt | hge
  · rw [List.getElem?_append_left hlt] at hj
    have:=h.2 j c hj
    rwa [Array.getD_eq_getD_getElem?,Array.getElem?_append_left (by rw [h.1];exact hlt),← Array.getD_eq_getD_getElem?]
  · rw [List.getElem?_append_right hge] at hj
    have:=k.2 _ c hj
    rwa [Array.getD_eq_getD_getElem?,Array.getElem?_append_right (by rw [h.1];exact hge),h.1,← Array.getD_eq_getD_getElem?]
section
variable {P:Program} {n:Nat} {Q:QA} {E:Env} {H:Xi} {ops:Array Oper} {rest:List Oper}
theorem Xgq {o:Oper} {c:Call} {x:Operand} {g:FuncId} {cap:List PV} {m:Mp} {w:World} {ρ:Operand→Value} (ho:o.op=.call c) (hc:c.callee=.value x) (hx:Rep m w (.fn (.func g) cap) (ρ x))
    (hf:∃ fn,P.funcs[g]?=some fn∧(fn.name == "runtime.NumGoroutine")=false∧fn.body.isNone=false) :
    ∃ vs,Xek m w cap vs∧(execOp ρ o).run P w=.ok (.enter g (c.args.map ρ++vs)) w:=by
  obtain ⟨fn,hf1,hf2,hf3⟩:=hf
  generalize hv:ρ x=v at hx
  cases hx with
  | fn vs hl hh =>
    refine ⟨vs,⟨hl,hh⟩,?_⟩
    have h2:¬ fn.name= "runtime.NumGoroutine":=by simpa using hf2
    have h3:¬ fn.body=none:=fun e=>by rw [e] at hf3;simp at hf3
    simp [execOp,ho,resolve,hc,hv,Deferred.ofValue,invoke,callFunc,hf1,h2,h3]
theorem Xma {o:Oper} {c:Call} {x:Operand} {g:FuncId} {cap args:List PV} {QC:PV→Xi→Prop} (hg:o.guard=none) (ho:o.op=.call c) (hc:c.callee=.value x) (hx:E.ev x=some (.fn (.func g) cap))
    (ha:evs E c.args.toList=some args) (h:AC P g (args++cap) H QC)
    (hd:match o.dst with | some d=>d < n | none=>True)
    (k:∀ p H',QC p H'→wpL P n ops rest Q (match o.dst with | some d=>(d,p)::E | none=>E) H'):wpL P n ops (o::rest) Q E H:=by
  rintro rd m0 w0 a w ⟨h1,h2,m,h3,h4,h5⟩
  refine wpListIn_plain hg fun K hK=>?_
  obtain ⟨vs,hvs,hrun⟩:=Xgq (P:=P) (m:=m) (w:=w) (ρ:=a.eval) ho hc (h5.ev hx) h.1
  refine Xgi hrun ?_
  have hargs:Xek m w args (c.args.map a.eval):=by
    obtain ⟨e1,e2⟩:=XcQ (m:=m) (w:=w) (ρ:=a.eval) (fun x q hx=>h5.ev hx) c.args.toList args ha
    refine ⟨by simp [e1],fun j q hj=>?_⟩
    have:=e2 j q hj
    simpa [Array.getD_eq_getD_getElem?,List.getD_eq_getElem?_getD] using this
  refine (h.2 m w _ h4 (hargs.append hvs)).mono ?_
  rintro e w' ⟨v,p,H',m',rfl,hq,hr,hR,hle⟩
  refine ⟨v,rfl,hK _ _ ?_⟩
  cases hdst:o.dst with
  | none =>
    have:=k p H' hq
    simp only [hdst] at this
    exact this rd m0 w0 a w' ⟨h1,h2,m',h3.trans hle,hR,h5.mono h4.rk hle⟩
  | some d =>
    have:=k p H' hq
    simp only [hdst] at this
    have hd':d < a.tmps.size:=by rw [hdst] at hd;rw [h1];exact hd
    exact this rd m0 w0 (a.put (some d) v) w' ⟨by simp [Act.put,h1],h2,m',h3.trans hle,hR,(h5.mono h4.rk hle).put hd' hr⟩
end
def XbF:Nat→List PV→Env
  | _,[]=>[]
  | k,p::r=>(k,p)::XbF (k+1) r
theorem Xcc:∀ (ps:List PV) (k t:Nat) (p:PV),(XbF k ps).get t=some p→k≤t∧ps[t - k]?=some p
  | [],k,t,p,h=>by simp [XbF,Env.get] at h
  | q::r,k,t,p,h=>by
    simp only [XbF] at h
    rw [Env.get_cons] at h
    by_cases e:k=t
    · subst e;rw [if_pos rfl] at h;cases h;simp
    · rw [if_neg e] at h
      obtain ⟨h1,h2⟩:=Xcc r (k+1) t p h
      refine ⟨by omega,?_⟩
      rw [show t - k=(t - (k+1))+1 from by omega]
      simpa using h2
def Xav:Nat→List PV→Option (List PV)
  | 0,_=>some []
  | _+1,[]=>none
  | k+1,c::r=>match Xav k r with
    | some l=>some (c::l)
    | none=>none
theorem Xao:∀ (k:Nat) (l r:List PV),Xav k l=some r↔(k≤l.length∧r=l.take k)
  | 0,l,r=>by simp [Xav,eq_comm]
  | k+1,[],r=>by simp [Xav]
  | k+1,c::l,r=>by
    have ih:=Xao k l
    simp only [Xav]
    cases h:Xav k l with
    | none =>
      have hn:¬ k≤l.length:=fun hk=>by
        have:=(ih (l.take k)).2 ⟨hk,rfl⟩
        rw [h] at this;cases this
      simp [hn]
    | some x =>
      obtain ⟨h1,h2⟩:=(ih x).1 h
      simp [h1,h2,eq_comm]
def Xdt (H:Xi) (p:PV) (k:Nat):Option (List PV) :=
  match p with
  | .ptr id off=>match H[id]? with
    | some (some B)=>Xav k (B.cells.drop off)
    | _=>none
  | .ept cells off=>Xav k (cells.drop off)
  | _=>none
theorem Addr.add_mk (b o k:Nat):(⟨b,o,none⟩:Addr).add k=⟨b,o+k,none⟩:=Addr.add_lit b o k
theorem XcJ {m:Mp} {H:Xi} {w:World} (h:R m H w) {p:PV} {k:Nat} {cs:List PV} {v:Value} (hr:Rep m w p v) (hc:Xdt H p k=some cs) :
    cs.length=k∧∃ b o,v=.pointer (some ⟨b,o,none⟩)∧∀ (j:Nat) (c:PV),cs[j]?=some c→∃ u,w.cell? ⟨b,o+j,none⟩=some u∧Rep m w c u:=by
  cases hr with
  | @ptr id off b lim hm =>
    simp only [Xdt] at hc
    split at hc
    · rename_i B hB
      obtain ⟨h1,rfl⟩:=(Xao _ _ _).1 hc
      refine ⟨by simp only [List.length_take];omega,b,0+off,rfl,fun j c hj=>?_⟩
      obtain ⟨_,⟨cur,c1,c2,c3,c4⟩,_⟩:=h.blk id B b 0 lim hB hm
      rw [List.getElem?_take] at hj
      split at hj
      · rw [List.getElem?_drop] at hj
        obtain ⟨u,hu,hru,_⟩:=c4 (off+j) c hj
        exact Zdc
      · cases hj
    · cases hc
  | @ept cells off b o f hro hcell hh =>
    simp only [Xdt] at hc
    obtain ⟨h1,rfl⟩:=(Xao _ _ _).1 hc
    refine ⟨by simp only [List.length_take];omega,b,o+off,rfl,fun j c hj=>?_⟩
    rw [List.getElem?_take] at hj
    split at hj
    · rw [List.getElem?_drop] at hj
      exact ⟨f (off+j),by rw [Nat.add_assoc];exact hcell _ c hj,hh _ c hj⟩
    · cases hj
  | _=>simp [Xdt] at hc
def Xd4:TypeDesc→Bool
  | .struct _=>true
  | .array _ _=>true
  | _=>false
theorem XdU {P:Program} {t:TypeId} {d:TypeDesc} (h:P.underlying t=some d) (w:World):(isAgg t).run P w=.ok (Xd4 d) w:=by
  unfold isAgg
  simp only [Sem.run_bind,run_underlying h,Result.andThen_ok]
  cases d <;> rfl
theorem Xap {P:Program} {t:TypeId} {i:TypeInfo} (h:P.info? t=some i) (w:World):(sizeOf t).run P w=.ok i.size w:=by
  simp [sizeOf,typeInfo,h]
def XdQ (d:TypeDesc) (size:Nat) (H:Xi) (p:PV):Option PV :=
  match Xd4 d with
  | true=>match Xdt H p size with
    | some cs=>some (.agg cs)
    | none=>none
  | false=>match Xdt H p 1 with
    | some [c]=>some c
    | _=>none
theorem XcI {P:Program} {m:Mp} {H:Xi} {w:World} (h:R m H w) {t:TypeId} {d:TypeDesc} {i:TypeInfo} (hd:P.underlying t=some d) (hi:P.info? t=some i) {p q:PV} {v:Value}
    (hr:Rep m w p v) (hl:XdQ d i.size H p=some q):∃ a u,v=.pointer (some a)∧(loadVar t a).run P w=.ok u w∧Rep m w q u:=by
  unfold XdQ at hl
  cases ha:Xd4 d with
  | true =>
    rw [ha] at hl
    simp only at hl
    split at hl
    · rename_i cs hcs
      cases hl
      obtain ⟨h1,b,o,rfl,h2⟩:=XcJ h hr hcs
      have hx:∃ us:List Value,us.length=cs.length∧∀ (j:Nat) (u:Value),us[j]?=some u→w.cell? ⟨b,o+j,none⟩=some u∧∃ c,cs[j]?=some c∧Rep m w c u:=by
        refine ⟨(List.range cs.length).map fun j=>(w.cell? ⟨b,o+j,none⟩).getD undef,by simp,fun j u hu=>?_⟩
        rw [List.getElem?_map] at hu
        rcases Nat.lt_or_ge j cs.length with hlt | hge
        · rw [List.getElem?_range hlt] at hu
          simp only [Option.map_some,Option.some.injEq] at hu
          obtain ⟨u',hu',hru⟩:=h2 j _ (List.getElem?_eq_getElem hlt)
          rw [hu'] at hu
          simp only [Option.getD_some] at hu
          subst hu
          exact ⟨hu',_,List.getElem?_eq_getElem hlt,hru⟩
        · rw [List.getElem?_eq_none (by simpa using hge)] at hu;cases hu
      obtain ⟨us,hus,hu⟩:=hx
      refine ⟨⟨b,o,none⟩,.agg us.toArray,rfl,?_,?_⟩
      · have:=run_loadCells_list (P:=P) w ⟨b,o,none⟩ us (fun j v hv=>by rw [Addr.add_mk];exact (hu j v hv).1)
        rw [hus,h1] at this
        unfold loadVar
        simp only [Sem.run_bind,XdU hd,ha,Result.andThen_ok,if_true,Xap hi,this,Sem.run_pure]
      · refine .agg us.toArray (by simp [hus]) (fun j c hj=>?_)
        have hlt:j < us.length:=by rw [hus];exact (List.getElem?_eq_some_iff.1 hj).1
        obtain ⟨_,c',hc',hrc⟩:=hu j _ (List.getElem?_eq_getElem hlt)
        rw [hj] at hc';cases hc'
        simpa [Array.getD_eq_getD_getElem?,hlt] using hrc
    · cases hl
  | false =>
    rw [ha] at hl
    simp only at hl
    split at hl
    · rename_i c hc
      cases hl
      obtain ⟨h1,b,o,rfl,h2⟩:=XcJ h hr hc
      obtain ⟨u,hu,hru⟩:=h2 0 _ rfl
      refine ⟨⟨b,o,none⟩,u,rfl,?_,hru⟩
      unfold loadVar
      have hu':w.cell? ⟨b,o,none⟩=some u:=by simpa using hu
      simp only [Sem.run_bind,XdU hd,ha,Result.andThen_ok,Bool.false_eq_true,if_false,run_load,hu']
    · cases hl
end Go.Th
namespace Go.Th
open Go.RowKit
class HasU (P:Program) (t:TypeId) (d:outParam TypeDesc):Prop where
  u:P.underlying t=some d
class HasI (P:Program) (t:TypeId) (size bytes:outParam Nat) (z:outParam (List Value)):Prop where
  i:∃ i zv,P.info? t=some i∧i.size=size∧i.bytes=bytes∧i.zero=some zv∧zv.cells.toList=z
class HasB (P:Program) (t:TypeId) (places:outParam (List (Nat × Nat))):Prop where
  b:∃ fields,P.underlying t=some (.struct fields)∧fields.toList.map (fun f=>(f.offset,(P.info? f.type).map (·.size)))=places.map (fun x=>(x.1,some x.2))
theorem Xc9 {P:Program}:∀ (fs:List Field) (places:List (Nat × Nat)),fs.map (fun f=>(f.offset,(P.info? f.type).map (·.size)))=places.map (fun x=>(x.1,some x.2)) →
    ∀ w,(fs.mapM fun f=>(do pure (f.offset,← sizeOf f.type):Sem (Nat × Nat))).run P w=.ok places w
  | [],[],_,w=>by simp
  | [],_::_,h,_=>by simp at h
  | _::_,[],h,_=>by simp at h
  | f::fs,x::places,h,w=>by
    simp only [List.map_cons,List.cons.injEq,Prod.mk.injEq] at h
    obtain ⟨⟨h1,h2⟩,h3⟩:=h
    obtain ⟨i,hi,hs⟩:=Option.map_eq_some_iff.1 h2
    have hone:(do pure (f.offset,← sizeOf f.type):Sem (Nat × Nat)).run P w=.ok x w:=by
      simp [sizeOf,typeInfo,hi,h1,hs]
    rw [List.mapM_cons]
    simp only [Sem.run_bind] at hone ⊢
    rw [hone]
    simp only [Result.andThen_ok]
    rw [Xc9 fs places h3 w]
    rfl
theorem HasB.run {P:Program} {t:TypeId} {places:List (Nat × Nat)} [hb:HasB P t places]:∃ fields,P.underlying t=some (.struct fields)∧∀ w,(fields.mapM fun f=>(do pure (f.offset,← sizeOf f.type):Sem (Nat × Nat))).run P w=.ok places.toArray w:=by
  obtain ⟨fields,h1,h2⟩:=hb.b
  refine ⟨fields,h1,fun w=>?_⟩
  rw [Array.mapM_eq_mapM_toList]
  simp only [Sem.run_map,Xc9 _ _ h2 w,Result.andThen_ok]
theorem HasB.spot {P:Program} {t:TypeId} {places:List (Nat × Nat)} [hb:HasB P t places] {k off sz:Nat} (hk:places[k]?=some (off,sz)):∃ fields fl i,P.underlying t=some (.struct fields)∧fields[k]?=some fl∧fl.offset=off∧P.info? fl.type=some i∧i.size=sz:=by
  obtain ⟨fields,h1,h2⟩:=hb.b
  have:=congrArg (·[k]?) h2
  simp only [List.getElem?_map,hk,Option.map_some] at this
  obtain ⟨fl,hf,he⟩:=Option.map_eq_some_iff.1 this
  simp only [Prod.mk.injEq] at he
  obtain ⟨i,hi,hs⟩:=Option.map_eq_some_iff.1 he.2
  exact ⟨fields,fl,i,h1,by simpa using hf,he.1,hi,hs⟩
def cellsOf:PV→List PV
  | .agg cs=>cs
  | p=>[p]
def XZ:PV→Bool
  | .v x=>x.oneCell'
  | .agg _=>false
  | .tup _=>false
  | _=>true
theorem XbS {m:Mp} {w:World} {p:PV} {v:Value} (h:Rep m w p v) (hp:XZ p=true):v.oneCell'=true:=by
  cases h <;> first | rfl | (simp [XZ] at hp;done) | (simpa [XZ] using hp)
def CR (m:Mp) (w:World) (ps:List PV) (vs:List Value):Prop:=vs.length=ps.length∧∀ (j:Nat) (c:PV),ps[j]?=some c→∃ u,vs[j]?=some u∧Rep m w c u
theorem Xbm {m:Mp} {w:World} {p:PV} {v:Value} (h:Rep m w p v):CR m w (cellsOf p) v.cells.toList:=by
  cases h with
  | agg vs hl hh =>
    refine ⟨by simp [cellsOf,Value.cells,hl],fun j c hj=>?_⟩
    have hlt:j < vs.size:=by rw [hl];exact (List.getElem?_eq_some_iff.1 hj).1
    exact Zdd
  | v _ hx =>
    have e:v.cells=#[v]:=by cases v <;> first | rfl | (simp [Xfd] at hx)
    refine ⟨by simp [cellsOf,e],fun j c hj=>?_⟩
    cases j with
    | zero=>simp [cellsOf] at hj;subst hj;exact ⟨v,by simp [e],.v v hx⟩
    | succ j=>simp [cellsOf] at hj
  | ptr hb=>exact ⟨rfl,fun j c hj=>by cases j with | zero=>simp [cellsOf] at hj;subst hj;exact ⟨_,rfl,.ptr hb⟩ | succ j=>simp [cellsOf] at hj⟩
  | mp hb=>exact ⟨rfl,fun j c hj=>by cases j with | zero=>simp [cellsOf] at hj;subst hj;exact ⟨_,rfl,.mp hb⟩ | succ j=>simp [cellsOf] at hj⟩
  | it hb=>exact ⟨rfl,fun j c hj=>by cases j with | zero=>simp [cellsOf] at hj;subst hj;exact ⟨_,rfl,.it hb⟩ | succ j=>simp [cellsOf] at hj⟩
  | yld hb=>exact ⟨rfl,fun j c hj=>by cases j with | zero=>simp [cellsOf] at hj;subst hj;exact ⟨_,rfl,.yld hb⟩ | succ j=>simp [cellsOf] at hj⟩
  | ept f a b d=>exact ⟨rfl,fun j c hj=>by cases j with | zero=>simp [cellsOf] at hj;subst hj;exact ⟨_,rfl,.ept f a b d⟩ | succ j=>simp [cellsOf] at hj⟩
  | sl a b c d=>exact ⟨rfl,fun j c hj=>by cases j with | zero=>simp [cellsOf] at hj;subst hj;exact ⟨_,rfl,.sl a b ‹_› d⟩ | succ j=>simp [cellsOf] at hj⟩
  | sl0 a=>exact ⟨rfl,fun j c hj=>by cases j with | zero=>simp [cellsOf] at hj;subst hj;exact ⟨_,rfl,.sl0 a⟩ | succ j=>simp [cellsOf] at hj⟩
  | tr f a b c d e g=>exact ⟨rfl,fun j c hj=>by cases j with | zero=>simp [cellsOf] at hj;subst hj;exact ⟨_,rfl,.tr f a b ‹_› d e g⟩ | succ j=>simp [cellsOf] at hj⟩
  | tr0 a b=>exact ⟨rfl,fun j c hj=>by cases j with | zero=>simp [cellsOf] at hj;subst hj;exact ⟨_,rfl,.tr0 a b⟩ | succ j=>simp [cellsOf] at hj⟩
  | trn=>exact ⟨rfl,fun j c hj=>by cases j with | zero=>simp [cellsOf] at hj;subst hj;exact ⟨_,rfl,.trn⟩ | succ j=>simp [cellsOf] at hj⟩
  | fn vs hl hh=>exact ⟨rfl,fun j c hj=>by cases j with | zero=>simp [cellsOf] at hj;subst hj;exact ⟨_,rfl,.fn vs hl hh⟩ | succ j=>simp [cellsOf] at hj⟩
  | tup vs hl hh=>exact ⟨rfl,fun j c hj=>by cases j with | zero=>simp [cellsOf] at hj;subst hj;exact ⟨_,rfl,.tup vs hl hh⟩ | succ j=>simp [cellsOf] at hj⟩
def Xaz:List PV→Nat→List PV→List PV
  | l,_,[]=>l
  | l,off,c::cs=>Xaz (l.set off c) (off+1) cs
theorem Xac:∀ (cs l:List PV) (off:Nat),(Xaz l off cs).length=l.length
  | [],l,off=>rfl
  | c::cs,l,off=>by simp [Xaz,Xac cs]
theorem XbK:∀ (cs l:List PV) (off j:Nat),off+cs.length≤l.length→(Xaz l off cs)[j]?=if off≤j∧j < off+cs.length then cs[j - off]? else l[j]?
  | [],l,off,j,_=>by
    simp only [Xaz,List.length_nil,Nat.add_zero]
    rw [if_neg (by omega)]
  | c::cs,l,off,j,h=>by
    simp only [List.length_cons] at h
    simp only [Xaz]
    rw [XbK cs (l.set off c) (off+1) j (by simp;omega)]
    simp only [List.length_cons]
    by_cases e:j=off
    · subst e
      rw [if_neg (by omega),if_pos (by omega)]
      simp only [Nat.sub_self,List.getElem?_cons_zero]
      rw [List.getElem?_set_self (by omega)]
    · by_cases e2:off+1≤j∧j < off+1+cs.length
      · rw [if_pos e2,if_pos (by omega)]
        rw [show j - off=(j - (off+1))+1 from by omega]
        simp
      · rw [if_neg e2,if_neg (by omega),List.getElem?_set_ne (by omega)]
section
variable {P:Program} {E:Env} {H:Xi} {o:Oper} {t s e:TypeId} {d:TypeDesc} {size bytes sz:Nat} {z:List Value} {fields:Array Field} {k:IntKind}
theorem OpV.same {p q:PV} (h:OpV P o E H p) (e:p=q):OpV P o E H q:=e ▸ h
theorem XJ {m:Mp} {w:World} {x v:Value} (h:Rep m w (.v x) v):v=x:=by cases h;rfl
theorem Xay {x:Operand} {p:PV} (ho:o.op=.move x) (hx:E.ev x=some p):OpV P o E H p:=fun m w ρ _ hρ =>
  ⟨ρ x,by simp [execOp,ho],hρ x p hx⟩
theorem Xat {x:Operand} {p:PV} (ho:o.op=.assign x) (hx:E.ev x=some p):OpV P o E H p:=fun m w ρ _ hρ =>
  ⟨ρ x,by simp [execOp,ho],hρ x p hx⟩
theorem Xa2 {c a b:Operand} {t:Bool} {p:PV} (ho:o.op=.pick c a b) (hc:E.ev c=some (.v (.bool t))) (ht:t=true) (ha:E.ev a=some p):OpV P o E H p:=fun m w ρ _ hρ=>by
  have h1:=XJ (hρ c _ hc)
  refine ⟨ρ a,by simp [execOp,ho,h1,asBool,ht],hρ a p ha⟩
theorem Xbd {c a b:Operand} {t:Bool} {p:PV} (ho:o.op=.pick c a b) (hc:E.ev c=some (.v (.bool t))) (ht:t=false) (hb:E.ev b=some p):OpV P o E H p:=fun m w ρ _ hρ=>by
  have h1:=XJ (hρ c _ hc)
  refine ⟨ρ b,by simp [execOp,ho,h1,asBool,ht],hρ b p hb⟩
def toV:PV→Option Value
  | .v x=>some x
  | .agg cs=>match cs.mapM (fun | .v x=>some x | _=>none) with
    | some xs=>some (.agg xs.toArray)
    | none=>none
  | _=>none
theorem Xkc:∀ (cs:List PV) (xs:List Value),cs.mapM (fun (p:PV)=>match p with | .v x=>some x | _=>none)=some xs→cs=xs.map PV.v
  | [],xs,h=>by simp at h;subst h;rfl
  | c::cs,xs,h=>by
    rw [List.mapM_cons] at h
    cases c with
    | v x =>
      simp only [Option.bind_eq_bind,Option.bind_some,Option.bind_eq_some_iff,Option.pure_def,Option.some.injEq] at h
      obtain ⟨ys,hy,rfl⟩:=h
      rw [Xkc cs ys hy];rfl
    | _=>simp at h
theorem Xgx {m:Mp} {w:World} {p:PV} {x v:Value} (h:Rep m w p v) (hp:toV p=some x):v=x:=by
  cases p with
  | v y=>simp only [toV] at hp;cases hp;exact XJ h
  | agg cs =>
    simp only [toV] at hp
    split at hp
    · rename_i xs hx
      cases hp
      have e:=Xkc cs xs hx
      subst e
      cases h with
      | agg vs hl hh =>
        congr 1
        apply Array.ext
        · simpa using hl
        · intro i h1 h2
          simp only [List.size_toArray] at h2
          have:=hh i (.v xs[i]) (by simp [h2])
          have:=XJ this
          simpa [Array.getD_eq_getD_getElem?,h1] using this
    · cases hp
  | _=>simp [toV] at hp
theorem X7 {op:BinOp} {t ty:TypeId} {x y:Operand} {px py:PV} {vx vy r:Value} (ho:o.op=.binOp op t x y ty) (hx:E.ev x=some px) (hy:E.ev y=some py) (hvx:toV px=some vx) (hvy:toV py=some vy)
    (h:∀ w,(do eqGuard op t x y vx vy;binOp op t vx vy:Sem Value).run P w=.ok r w) (hr:Xfd r=true):OpV P o E H (.v r):=fun m w ρ _ hρ=>by
  have h1:=Xgx (hρ x _ hx) hvx
  have h2:=Xgx (hρ y _ hy) hvy
  refine ⟨r,?_,.v r hr⟩
  have:=h w
  simp only [execOp,ho,h1,h2,Sem.run_bind] at this ⊢
  rw [this]
  rfl
theorem XP {op:BinOp} {t ty:TypeId} {x y:Operand} {k:IntKind} {a b:Int} {r:Bool} (ho:o.op=.binOp op t x y ty) (hx:E.ev x=some (.v (.int k a))) (hy:E.ev y=some (.v (.int k b)))
    (hr:(match op with | .eql=>some (decide (a=b)) | .neq=>some (!decide (a=b)) | .lss=>some (decide (a < b)) | .leq=>some (decide (a≤b)) | .gtr=>some (decide (b < a)) | .geq=>some (decide (b≤a)) | _=>none)=some r) :
    OpV P o E H (.v (.bool r)):=X7 ho hx hy rfl rfl (fun w=>by
  cases op <;> simp only at hr <;> cases hr
  · simp [eqGuard_at_int,binOp_eql];rfl
  · simp [eqGuard_at_int,binOp_neq];rfl
  · simp [eqGuard_at_int,binOp_lss]
  · simp [eqGuard_at_int,binOp_leq]
  · simp [eqGuard_at_int,binOp_gtr]
  · simp [eqGuard_at_int,binOp_geq]) rfl
theorem Xe4 {t ty:TypeId} {x y:Operand} {a b:Int} (ho:o.op=.binOp .add t x y ty) (hx:E.ev x=some (.v (.int .i64 a))) (hy:E.ev y=some (.v (.int .i64 b)))
    (h:-9223372036854775808≤a+b∧a+b≤9223372036854775807):OpV P o E H (.v (.int .i64 (a+b))):=X7 ho hx hy rfl rfl (fun w=>by
  have e:IntKind.i64.wrap (a+b)=a+b:=by rw [IntKind.wrap_i64];omega
  simp [eqGuard_at_int,binOp_add,Op.intArith,e]) rfl
theorem Xel {t ty:TypeId} {x y:Operand} {a b:Int} (ho:o.op=.binOp .sub t x y ty) (hx:E.ev x=some (.v (.int .i64 a))) (hy:E.ev y=some (.v (.int .i64 b)))
    (h:-9223372036854775808≤a - b∧a - b≤9223372036854775807):OpV P o E H (.v (.int .i64 (a - b))):=X7 ho hx hy rfl rfl (fun w=>by
  have e:IntKind.i64.wrap (a - b)=a - b:=by rw [IntKind.wrap_i64];omega
  simp [eqGuard_at_int,binOp_sub,Op.intArith,e]) rfl
theorem XwX [hu:HasU P t .bool] {ty:TypeId} {x y:Operand} {a b:Bool} (ho:o.op=.binOp .neq t x y ty) (hx:E.ev x=some (.v (.bool a))) (hy:E.ev y=some (.v (.bool b))) :
    OpV P o E H (.v (.bool (!(a == b)))):=X7 ho hx hy rfl rfl (fun w=>by
  have h:∀ n,(Op.equalIn (n+1) t (.bool a) (.bool b)).run P w=.ok (a == b) w:=fun n=>run_equalIn_bool' w n t a b hu.u
  simp [eqGuard_at_bool,binOp,Op.equal,Op.maxDepth,h 9999]) rfl
theorem XfT [hu:HasU P t (.pointer e)] {op:BinOp} {ty:TypeId} {x:Operand} {p:PV} {r:Bool} (ho:o.op=.binOp op t x (.const (.pointer none)) ty) (hx:E.ev x=some p)
    (hr:(match op,p with | .eql,.ptr _ _=>some false | .eql,.ept _ _=>some false | .eql,.v (.pointer none)=>some true | .neq,.ptr _ _=>some true | .neq,.ept _ _=>some true | .neq,.v (.pointer none)=>some false | _,_=>none)=some r) :
    OpV P o E H (.v (.bool r)):=fun m w ρ _ hρ=>by
  have h1:=hρ x p hx
  have h2:=XJ (hρ (.const (.pointer none)) _ rfl)
  refine ⟨.bool r,?_,.v _ rfl⟩
  have key:∃ q,ρ x=.pointer q∧((op=.eql∧r=q.isNone)∨(op=.neq∧r=!q.isNone)):=by
    generalize ρ x=v at h1
    cases h1 with
    | ptr hb=>cases op <;> simp only at hr <;> cases hr <;> exact ⟨_,rfl,by simp⟩
    | ept f a b c=>cases op <;> simp only at hr <;> cases hr <;> exact ⟨_,rfl,by simp⟩
    | v _ hy =>
      cases v with
      | pointer q =>
        cases q with
        | none=>cases op <;> simp only at hr <;> cases hr <;> exact ⟨_,rfl,by simp⟩
        | some q=>cases op <;> simp at hr
      | _=>cases op <;> simp at hr
    | _=>cases op <;> simp at hr
  obtain ⟨q,e1,he⟩:=key
  have hp:P.underlying t=some (.pointer (P.pointee t)):=by simp [Program.pointee,hu.u]
  rcases he with ⟨rfl,rfl⟩ | ⟨rfl,rfl⟩
  · simp [execOp,ho,e1,h2,eqGuard_at_pointer,run_eql_pointer_nil _ _ _ hp]
  · simp [execOp,ho,e1,h2,eqGuard_at_pointer,run_neq_pointer_nil _ _ _ hp]
theorem Xem {t:TypeId} {x:Operand} {b:Bool} (ho:o.op=.unOp .not t x) (hx:E.ev x=some (.v (.bool b))):OpV P o E H (.v (.bool (!b))):=fun m w ρ _ hρ=>by
  have h1:=XJ (hρ x _ hx)
  exact ⟨.bool (!b),by simp [execOp,ho,h1,Op.unary],.v _ rfl⟩
def Xb2:PV→Option Nat
  | .sl _ _ len _=>some len
  | .tr _ len _=>some len
  | .v (.slice none n _)=>some n
  | _=>none
theorem XiS {m:Mp} {w:World} {p:PV} {n:Nat} {v:Value} (h:Rep m w p v) (hl:Xb2 p=some n):∃ a c,v=.slice a n c:=by
  cases h with
  | sl _ _ _ _=>simp only [Xb2] at hl;cases hl;exact ⟨_,_,rfl⟩
  | sl0 a=>simp only [Xb2] at hl;cases hl;exact ⟨_,_,rfl⟩
  | tr f _ _ _ _ _ _=>simp only [Xb2] at hl;cases hl;exact ⟨_,_,rfl⟩
  | tr0 a _=>simp only [Xb2] at hl;cases hl;exact ⟨_,_,rfl⟩
  | trn=>simp only [Xb2] at hl;cases hl;exact ⟨_,_,rfl⟩
  | v _ hx=>cases v with
    | slice a k c=>cases a with
      | none=>simp only [Xb2] at hl;cases hl;exact ⟨_,_,rfl⟩
      | some a=>simp [Xb2] at hl
    | _=>simp [Xb2] at hl
  | _=>simp [Xb2] at hl
theorem Xen [hu:HasU P t (.slice e)] {x:Operand} {p:PV} {n:Nat} (ho:o.op=.call { callee:=.builtin .len,args:=#[x],argTypes:=#[t] }) (hx:E.ev x=some p) (hl:Xb2 p=some n) :
    OpV P o E H (.v (.int .i64 (n:Int))):=fun m w ρ _ hρ=>by
  obtain ⟨a,c,h⟩:=XiS (hρ x p hx) hl
  refine ⟨.int .i64 n,?_,.v _ rfl⟩
  simp [execOp,ho,resolve,invoke,builtin,h,Builtin.len_,run_underlying hu.u,goInt]
theorem Xa7 [hu:HasU P t d] [hi:HasI P t size bytes z] {x:Operand} {p q:PV} (ho:o.op=.load t x) (hx:E.ev x=some p) (hl:XdQ d size H p=some q):OpV P o E H q:=fun m w ρ hR hρ=>by
  obtain ⟨i,zv,h1,rfl,_⟩:=hi.i
  obtain ⟨a,u,e,hrun,hr⟩:=XcI hR hu.u h1 (hρ x p hx) hl
  refine ⟨u,?_,hr⟩
  simp [execOp,ho,e,Instr.loadAt,Instr.sureAddr,hrun]
def XdM (p:PV) (k:Nat):Option PV :=
  match p with
  | .ptr id off=>some (.ptr id (off+k))
  | .ept cells off=>some (.ept cells (off+k))
  | _=>none
theorem Xfv {m:Mp} {w:World} {p q:PV} {k:Nat} {v:Value} (h:Rep m w p v) (hs:XdM p k=some q):∃ a,v=.pointer (some a)∧Rep m w q (.pointer (some (a.add k))):=by
  cases h with
  | ptr hb=>simp only [XdM] at hs;cases hs;exact ⟨_,rfl,by rw [Addr.add_mk,Nat.add_assoc];exact .ptr hb⟩
  | ept f a b c=>simp only [XdM] at hs;cases hs;exact ⟨_,rfl,by rw [Addr.add_mk,Nat.add_assoc];exact .ept f a b c⟩
  | _=>simp [XdM] at hs
theorem XB {places:List (Nat × Nat)} [hb:HasB P s places] {x:Operand} {k off sz:Nat} {p q:PV} (ho:o.op=.fieldAddr s x k) (hx:E.ev x=some p) (hf:places[k]?=some (off,sz+1))
    (hq:XdM p off=some q):OpV P o E H q:=fun m w ρ hR hρ=>by
  obtain ⟨a,e,hr⟩:=Xfv (hρ x p hx) hq
  obtain ⟨fields,fl,i,h1,h2,h3,h4,h5⟩:=HasB.spot (P:=P) (t:=s) hf
  subst h3
  refine ⟨_,?_,hr⟩
  simp [execOp,ho,e,Instr.fieldAt,run_underlying h1,h2,Instr.sureAddr,fieldPlace,Xap h4,h5]
theorem Xaa {x:Operand} {p:PV} (ho:o.op=.nilCheck x) (hx:E.ev x=some p) (hp:(match p with | .ptr _ _=>true | .ept _ _=>true | _=>false)=true):OpV P o E H p:=fun m w ρ hR hρ=>by
  have h:=hρ x p hx
  refine ⟨ρ x,?_,h⟩
  generalize hv:ρ x=v at h
  cases h <;> simp at hp <;> simp [execOp,ho,hv]
def Xck (p:PV) (sz:Nat) (i:Nat):Option PV :=
  match p with
  | .sl id off _ _=>some (.ptr id (off+i * sz))
  | .tr cells _ _=>some (.ept cells (i * sz))
  | _=>none
theorem Xbp [hu:HasU P t (.slice e)] [hi:HasI P e sz bytes z] {x y:Operand} {k:IntKind} {i:Int} {n:Nat} {p q:PV} (ho:o.op=.indexAddr t x y) (hx:E.ev x=some p) (hy:E.ev y=some (.v (.int k i)))
    (hn:Xb2 p=some n) (hq:Xck p sz i.toNat=some q) (h:0≤i∧i < n):OpV P o E H q:=fun m w ρ hR hρ=>by
  have h1:=hρ x p hx
  have h2:=XJ (hρ y _ hy)
  obtain ⟨inf,zv,h3,h4,_⟩:=hi.i
  have key:∃ a c,ρ x=.slice (some a) n c∧Rep m w q (.pointer (some (a.add (i.toNat * sz)))):=by
    generalize ρ x=v at h1
    cases h1 with
    | sl hb a1 a2 a3 =>
      simp only [Xb2] at hn;cases hn
      simp only [Xck] at hq;cases hq
      exact Zce
    | sl0 a=>simp only [Xb2] at hn;cases hn;omega
    | tr f a1 a2 a3 a4 a5 a6 =>
      simp only [Xb2] at hn;cases hn
      simp only [Xck] at hq;cases hq
      exact ⟨_,_,rfl,by rw [Addr.add_mk];exact .ept f a1 a5 a6⟩
    | tr0 a a2=>simp only [Xb2] at hn;cases hn;omega
    | trn=>simp only [Xb2] at hn;cases hn;omega
    | v x hx=>simp [Xck] at hq
    | _=>simp [Xck] at hq
  obtain ⟨a,c,e1,hr⟩:=key
  refine ⟨_,?_,hr⟩
  simp [execOp,ho,e1,h2,Instr.indexAt,run_underlying hu.u,asIntOf,h,Xap h3,h4]
theorem Xch {x:Operand} {ps:List PV} {k:Nat} {p:PV} (ho:o.op=.extract x k) (hx:E.ev x=some (.tup ps)) (hk:ps[k]?=some p):OpV P o E H p:=fun m w ρ hR hρ=>by
  have h:=hρ x _ hx
  generalize hv:ρ x=v at h
  cases h with
  | tup vs hl hh =>
    have hlt:k < vs.size:=by rw [hl];exact (List.getElem?_eq_some_iff.1 hk).1
    refine ⟨vs[k],?_,by simpa [Array.getD_eq_getD_getElem?,hlt] using hh k p hk⟩
    simp [execOp,ho,hv,Instr.extract,hlt]
theorem Xl6 {ts:Array TypeId} {x y:Operand} {k:IntKind} {a b:Int} (ho:o.op=.call { callee:=.builtin .max,args:=#[x,y],argTypes:=ts }) (hx:E.ev x=some (.v (.int k a))) (hy:E.ev y=some (.v (.int k b))) :
    OpV P o E H (.v (.int k (max a b))):=fun m w ρ hR hρ=>by
  have h1:=XJ (hρ x _ hx)
  have h2:=XJ (hρ y _ hy)
  refine ⟨_,?_,.v _ rfl⟩
  have e:(if b > a then b else a)=max a b:=by split <;> omega
  simp [execOp,ho,resolve,invoke,builtin,h1,h2,run_max_int2,e]
theorem XqE {ts:Array TypeId} {x y:Operand} {k:IntKind} {a b:Int} (ho:o.op=.call { callee:=.builtin .min,args:=#[x,y],argTypes:=ts }) (hx:E.ev x=some (.v (.int k a))) (hy:E.ev y=some (.v (.int k b))) :
    OpV P o E H (.v (.int k (min a b))):=fun m w ρ hR hρ=>by
  have h1:=XJ (hρ x _ hx)
  have h2:=XJ (hρ y _ hy)
  refine ⟨_,?_,.v _ rfl⟩
  have e:(if b < a then b else a)=min a b:=by split <;> omega
  simp [execOp,ho,resolve,invoke,builtin,h1,h2,run_min_int2,e]
theorem XaS [hs:HasU P s d] [hd:HasU P t (.int k)] {x:Operand} {j:IntKind} {a:Int} {b:Int} (ho:o.op=.convert s t x) (hx:E.ev x=some (.v (.int j a))) (hb:k.wrap a=b) :
    OpV P o E H (.v (.int k b)):=fun m w ρ hR hρ=>by
  have h1:=XJ (hρ x _ hx)
  refine ⟨.int k b,?_,.v _ rfl⟩
  simp [execOp,ho,h1,convert,run_underlying hs.u,run_underlying hd.u,Conv.intToInt,hb]
theorem Xc4 {f:Fn} {caps:Array Operand} {ps:List PV} (ho:o.op=.makeFunc f #[] caps) (hp:evs E caps.toList=some ps):OpV P o E H (.fn f ps):=fun m w ρ hR hρ=>by
  obtain ⟨e1,e2⟩:=XcQ (m:=m) (w:=w) hρ caps.toList ps hp
  refine ⟨.func f #[] (caps.map ρ),by simp [execOp,ho,Instr.makeFunc],.fn _ (by simp [e1]) fun j c hj=>?_⟩
  have:=e2 j c hj
  simpa [Array.getD_eq_getD_getElem?,List.getD_eq_getElem?_getD] using this
end
end Go.Th
namespace Go.Th
open Go.RowKit
def Xcn (place:Nat→Option (Nat × Nat)) (cells:List PV):List (Nat × PV)→Option (List PV)
  | []=>some cells
  | (i,p)::rest=>match place i with
    | none=>none
    | some (off,size)=>match Nat.beq (cellsOf p).length size && Nat.ble (off+(cellsOf p).length) cells.length with
      | true=>Xcn place (Xaz cells off (cellsOf p)) rest
      | false=>none
theorem Xd9:∀ (vs:List Value) (off k:Nat) (cs:Array Value),off+k+vs.length≤cs.size →
    ((vs.zipIdx k).foldl (fun cs (c,j)=>cs.setIfInBounds (off+j) c) cs).size=cs.size ∧
    ∀ j:Nat,((vs.zipIdx k).foldl (fun cs (c,j)=>cs.setIfInBounds (off+j) c) cs)[j]?=if off+k≤j∧j < off+k+vs.length then vs[j - (off+k)]? else cs[j]?
  | [],off,k,cs,_=>by
    refine ⟨rfl,fun j=>?_⟩
    simp only [List.zipIdx_nil,List.foldl_nil,List.length_nil,Nat.add_zero]
    rw [if_neg (by omega)]
  | v::vs,off,k,cs,h=>by
    simp only [List.length_cons] at h
    obtain ⟨h1,h2⟩:=Xd9 vs off (k+1) (cs.setIfInBounds (off+k) v) (by simp;omega)
    simp only [List.zipIdx_cons,List.foldl_cons]
    refine ⟨by rw [h1];simp,fun j=>?_⟩
    rw [h2 j]
    simp only [List.length_cons]
    by_cases e:j=off+k
    · subst e
      rw [if_neg (by omega),if_pos (by omega)]
      simp only [Nat.sub_self,List.getElem?_cons_zero]
      rw [Array.getElem?_setIfInBounds_self_of_lt (by omega)]
    · by_cases e2:off+(k+1)≤j∧j < off+(k+1)+vs.length
      · rw [if_pos e2,if_pos (by omega)]
        rw [show j - (off+k)=(j - (off+(k+1)))+1 from by omega]
        simp
      · rw [if_neg e2,if_neg (by omega),Array.getElem?_setIfInBounds_ne (by omega)]
theorem Xcm {m:Mp} {w:World} {place:Nat→Option (Nat × Nat)}:∀ (parts:List (Nat × PV)) (vparts:List (Nat × Value)) (cells cs:List PV) (vcells:Array Value),
    parts.length=vparts.length→(∀ (j:Nat) (x:Nat × PV) (y:Nat × Value),parts[j]?=some x→vparts[j]?=some y→x.1=y.1∧Rep m w x.2 y.2)→CR m w cells vcells.toList→Xcn place cells parts=some cs →
    ∃ vs,Instr.fill place vcells vparts=some vs∧CR m w cs vs.toList
  | [],[],cells,cs,vcells,_,_,hc,h=>by simp only [Xcn] at h;cases h;exact ⟨vcells,rfl,hc⟩
  | [],_::_,_,_,_,hl,_,_,_=>by simp at hl
  | _::_,[],_,_,_,hl,_,_,_=>by simp at hl
  | (i,p)::parts,(i',v)::vparts,cells,cs,vcells,hl,hp,hc,h=>by
    obtain ⟨e,hr⟩:=hp 0 (i,p) (i',v) rfl rfl
    simp only at e hr
    subst e
    simp only [Xcn] at h
    cases hpl:place i with
    | none=>rw [hpl] at h;cases h
    | some x =>
      obtain ⟨off,size⟩:=x
      rw [hpl] at h
      simp only at h
      split at h
      · rename_i hb
        simp only [Bool.and_eq_true,Nat.ble_eq] at hb
        obtain ⟨hb1,hb2⟩:=hb
        have hb1:=Nat.eq_of_beq_eq_true hb1
        have hcv:=Xbm hr
        have hsz:v.cells.size=(cellsOf p).length:=by have:=hcv.1;simpa using this
        have hcl:vcells.size=cells.length:=by have:=hc.1;simpa using this
        have hcond:¬ ((v.cells.size≠size || decide (off+v.cells.size > vcells.size))=true):=by
          simp only [Bool.or_eq_true,decide_eq_true_eq,not_or]
          refine ⟨?_,by omega⟩
          simp;omega
        obtain ⟨f1,f2⟩:=Xd9 v.cells.toList off 0 vcells (by simp;omega)
        have hfold:(v.cells.zipIdx.foldl (fun cs (c,j)=>cs.setIfInBounds (off+j) c) vcells)=((v.cells.toList.zipIdx 0).foldl (fun cs (c,j)=>cs.setIfInBounds (off+j) c) vcells):=by
          rw [← Array.foldl_toList];simp
        have hnew:CR m w (Xaz cells off (cellsOf p)) (v.cells.zipIdx.foldl (fun cs (c,j)=>cs.setIfInBounds (off+j) c) vcells).toList:=by
          rw [hfold]
          refine ⟨by rw [Xac];simpa using f1.trans hcl,fun j c hj=>?_⟩
          rw [XbK _ _ _ _ hb2] at hj
          rw [Array.getElem?_toList,f2 j]
          simp only [Array.length_toList,Nat.add_zero]
          by_cases e:off≤j∧j < off+(cellsOf p).length
          · rw [if_pos e] at hj
            rw [if_pos (by omega)]
            exact hcv.2 _ c hj
          · rw [if_neg e] at hj
            rw [if_neg (by omega)]
            have:=hc.2 j c hj
            simpa using this
        obtain ⟨vs,h1,h2⟩:=Xcm parts vparts _ cs _ (by simpa using hl) (fun j x y hx hy=>hp (j+1) x y (by simpa using hx) (by simpa using hy)) hnew h
        refine ⟨vs,?_,h2⟩
        simp only [Instr.fill,hpl]
        rw [if_neg hcond]
        exact h1
      · cases h
def evp (E:Env):List (Nat × Operand)→Option (List (Nat × PV))
  | []=>some []
  | (i,x)::r=>match E.ev x with
    | some p=>match evp E r with
      | some ps=>some ((i,p)::ps)
      | none=>none
    | none=>none
theorem Xec {m:Mp} {w:World} {E:Env} {ρ:Operand→Value} (hρ:∀ x q,E.ev x=some q→Rep m w q (ρ x)):∀ (l:List (Nat × Operand)) (ps:List (Nat × PV)),evp E l=some ps →
    ps.length=(l.map fun (x:Nat × Operand)=>(x.1,ρ x.2)).length∧∀ (j:Nat) (x:Nat × PV) (y:Nat × Value),ps[j]?=some x→(l.map fun (x:Nat × Operand)=>(x.1,ρ x.2))[j]?=some y→x.1=y.1∧Rep m w x.2 y.2
  | [],ps,h=>by simp [evp] at h;subst h;simp
  | (i,x)::r,ps,h=>by
    simp only [evp] at h
    split at h
    · rename_i p hp
      split at h
      · rename_i qs hq
        cases h
        obtain ⟨h1,h2⟩:=Xec hρ r qs hq
        refine ⟨by simp [h1],fun j a b ha hb=>?_⟩
        cases j with
        | zero =>
          simp at ha hb
          subst ha;subst hb
          exact ⟨rfl,hρ x p hp⟩
        | succ j=>exact h2 j a b (by simpa using ha) (by simpa using hb)
      · cases h
    · cases h
theorem Xtp {m:Mp} {w:World} {z:List Value} (hz:z.all (fun x=>x.oneCell')=true):CR m w (z.map PV.v) z:=by
  refine ⟨by simp,fun j c hj=>?_⟩
  rw [List.getElem?_map] at hj
  cases h:z[j]? with
  | none=>rw [h] at hj;cases hj
  | some x =>
    rw [h] at hj
    simp only [Option.map_some,Option.some.injEq] at hj
    subst hj
    have:=List.all_eq_true.1 hz x (List.mem_of_getElem? h)
    exact Zde
theorem XkV {m:Mp} {w:World} {cs:List PV} {vs:Array Value} (h:CR m w cs vs.toList):Rep m w (.agg cs) (.agg vs):=by
  refine .agg vs (by simpa using h.1) fun j c hj=>?_
  obtain ⟨u,hu,hr⟩:=h.2 j c hj
  have hlt:j < vs.size:=by
    have h1:vs.size=cs.length:=by simpa using h.1
    rw [h1];exact (List.getElem?_eq_some_iff.1 hj).1
  simp [hlt] at hu
  subst hu
  simpa [Array.getD_eq_getD_getElem?,hlt] using hr
theorem Xfr {m:Mp} {w:World} {cs:List PV} {vs:Array Value} (h:CR m w cs vs.toList) (h1:cs.all XZ=true):∀ (j:Nat) (c:PV),cs[j]?=some c→∃ v:Value,vs[j]?=some v∧Rep m w c v∧v.oneCell'=true:=fun j c hj=>by
  obtain ⟨u,hu,hr⟩:=h.2 j c hj
  exact Zdf
section
variable {P:Program} {E:Env} {H:Xi} {o:Oper} {t s e:TypeId} {d:TypeDesc} {size bytes sz:Nat} {z:List Value} {fields:Array Field} {k:IntKind} {places:List (Nat × Nat)}
theorem Xdj [hb:HasB P t places] [hi:HasI P t size bytes z] {parts:Array (Nat × Operand)} {ps:List (Nat × PV)} {cs:List PV} (ho:o.op=.build t parts) (hp:evp E parts.toList=some ps) (hz:z.all (fun x=>x.oneCell')=true)
    (hc:Xcn (fun (i:Nat)=>places[i]?) (z.map PV.v) ps=some cs):OpV P o E H (.agg cs):=fun m w ρ hR hρ=>by
  obtain ⟨fields,h1,h2⟩:=HasB.run (P:=P) (t:=t) (places:=places)
  obtain ⟨i,zv,h3,_,_,h4,h5⟩:=hi.i
  obtain ⟨e1,e2⟩:=Xec (m:=m) (w:=w) hρ _ _ hp
  obtain ⟨vs,hf,hr⟩:=Xcm ps (parts.toList.map fun (x:Nat × Operand)=>(x.1,ρ x.2)) (z.map PV.v) cs zv.cells e1 e2 (by rw [h5];exact Xtp hz) hc
  refine ⟨.agg vs,?_,XkV hr⟩
  have hpl:(fun (i:Nat)=>places.toArray[i]?)=fun (i:Nat)=>places[i]?:=by funext i;simp
  simp only [execOp,ho,Instr.build,zeroValue,typeInfo,Sem.run_bind,run_program,Result.andThen_ok,h3,Sem.run_pure,h4,run_underlying h1,h2 w,hpl]
  rw [show (Array.map (fun x:Nat × Operand=>(x.1,ρ x.2)) parts).toList=parts.toList.map fun (x:Nat × Operand)=>(x.1,ρ x.2) from by simp]
  rw [hf]
  rfl
theorem Xdv {m:Mp} {w:World} (hR:R m H w) {cs:List PV} {vs:Array Value} (hc:CR m w cs vs.toList) (h1:cs.all XZ=true) (e:TypeId) :
    ∃ m',Le m w m' (w.alloc (.cells vs e))∧R m' (H++[some ⟨cs,e,true⟩]) (w.alloc (.cells vs e))∧m'.blk H.length=some (w.heap.size,0,vs.size):=by
  have hl:vs.size=cs.length:=by simpa using hc.1
  obtain ⟨a,b⟩:=hR.new cs e vs (by omega) (Xfr hc h1)
  exact ⟨_,b,a,by simp⟩
theorem Xfo [hi:HasI P t size bytes z] (ho:o.op=.alloc t) (hz:z.all (fun x=>x.oneCell')=true):OpW P o E H (.ptr H.length 0) (H++[some ⟨z.map PV.v,t,true⟩]):=fun m w ρ hR hρ=>by
  obtain ⟨i,zv,h3,_,_,h4,h5⟩:=hi.i
  have h1:(z.map PV.v).all XZ=true:=by simpa [XZ] using hz
  obtain ⟨m',a,b,c⟩:=Xdv hR (by rw [h5];exact Xtp hz) h1 t (vs:=zv.cells)
  refine ⟨.pointer (some ⟨w.heap.size,0,none⟩),m',w.alloc (.cells zv.cells t),?_,a,b,.ptr (off:=0) c⟩
  simp [execOp,ho,Instr.alloc,zeroValue,typeInfo,h3,h4,newVar,newRow]
theorem Xjx {x:Operand} {p:PV} (ho:o.op=.box t x) (hx:E.ev x=some p) (h1:(cellsOf p).all XZ=true):OpW P o E H (.ptr H.length 0) (H++[some ⟨cellsOf p,t,true⟩]):=fun m w ρ hR hρ=>by
  obtain ⟨m',a,b,c⟩:=Xdv hR (Xbm (hρ x p hx)) h1 t
  refine ⟨.pointer (some ⟨w.heap.size,0,none⟩),m',w.alloc (.cells (ρ x).cells t),?_,a,b,.ptr (off:=0) c⟩
  simp [execOp,ho,Instr.box,newVar,newRow]
theorem XaB [hu:HasU P t (.slice e)] [hi:HasI P e sz bytes z] {n:Nat} {parts:Array (Nat × Operand)} {ps:List (Nat × PV)} {cs:List PV} (ho:o.op=.buildSlice t n parts) (hp:evp E parts.toList=some ps) (hz:z.all (fun x=>x.oneCell')=true)
    (hzl:Nat.beq z.length sz=true) (hpos:Nat.ble 1 sz=true) (hn:Nat.ble (n * sz) 16777216=true) (hc:Xcn (fun i=>some (i * sz,sz)) ((List.range (n * sz)).map fun j=>.v (z.getD (j % z.length) undef)) ps=some cs) (h1:cs.all XZ=true) :
    OpW P o E H (.sl H.length 0 n sz) (H++[some ⟨cs,e,true⟩]):=fun m w ρ hR hρ=>by
  obtain ⟨i,zv,h3,rfl,_,h4,h5⟩:=hi.i
  obtain ⟨e1,e2⟩:=Xec (m:=m) (w:=w) hρ _ _ hp
  have hzs:zv.cells.size=i.size:=by have:=Nat.eq_of_beq_eq_true hzl;rw [← h5] at this;simpa using this
  have hn':=Nat.le_of_ble_eq_true hn
  have hpos:=Nat.le_of_ble_eq_true hpos
  have hz0:CR m w ((List.range (n * i.size)).map fun j=>PV.v (z.getD (j % z.length) undef)) ((Array.range (n * i.size)).map (zv.cells[· % zv.cells.size]!)).toList:=by
    refine ⟨by simp,fun j c hj=>?_⟩
    rw [List.getElem?_map] at hj
    rcases Nat.lt_or_ge j (n * i.size) with hlt | hge
    · rw [List.getElem?_range hlt] at hj
      simp only [Option.map_some,Option.some.injEq] at hj
      subst hj
      have hm:j % zv.cells.size < zv.cells.size:=Nat.mod_lt _ (by omega)
      have hzl':z.length=zv.cells.size:=by rw [← h5];simp
      have hget:z.getD (j % z.length) undef=zv.cells[j % zv.cells.size]:=by
        rw [hzl']
        simp only [← h5,List.getD_eq_getElem?_getD,Array.getElem?_toList]
        rw [Array.getElem?_eq_getElem hm];rfl
      refine ⟨zv.cells[j % zv.cells.size],?_,?_⟩
      · simp [hlt,hm]
      · rw [hget]
        have:(zv.cells[j % zv.cells.size]).oneCell'=true:=by
          rw [← h5] at hz
          exact List.all_eq_true.1 hz _ (by simp)
        exact Zcf
    · rw [List.getElem?_eq_none (by simpa using hge)] at hj;cases hj
  obtain ⟨vs,hf,hr⟩:=Xcm ps (parts.toList.map fun (x:Nat × Operand)=>(x.1,ρ x.2)) _ cs _ e1 e2 hz0 hc
  obtain ⟨m',a,b,c⟩:=Xdv hR hr h1 e
  have hsz:vs.size=n * i.size:=by
    have h6:vs.size=cs.length:=by simpa using hr.1
    have h7:cs.length=n * i.size:=by
      have:∀ (ps:List (Nat × PV)) (cells cs:List PV),Xcn (fun j=>some (j * i.size,i.size)) cells ps=some cs→cs.length=cells.length:=by
        intro ps
        induction ps with
        | nil=>intro cells cs h;simp only [Xcn] at h;cases h;rfl
        | cons x r ih =>
          intro cells cs h
          obtain ⟨j,p⟩:=x
          simp only [Xcn] at h
          split at h
          · rw [ih _ _ h,Xac]
          · cases h
      rw [this _ _ _ hc];simp
    omega
  have hmax:n≤maxLen:=by
    have:=Nat.le_mul_of_pos_right n hpos
    simp only [maxLen];omega
  refine ⟨.slice (some ⟨w.heap.size,0,none⟩) n n,m',w.alloc (.cells vs e),?_,a,b,?_⟩
  · have hlim:¬ (16777216 < n * i.size):=by omega
    have h24:(2:Nat) ^ 24=16777216:=by decide
    have hparts:(Array.map (fun x:Nat × Operand=>(x.1,ρ x.2)) parts).toList=parts.toList.map fun (x:Nat × Operand)=>(x.1,ρ x.2):=by simp
    simp only [execOp,ho,Instr.buildSlice,Sem.run_bind,run_underlying hu.u,Result.andThen_ok,Xap h3,h24,gt_iff_lt,hlim,if_false,hparts]
    by_cases h0:n * i.size=0
    · have hr0:∀ f:Nat→Value,Array.map f (Array.range 0)=#[]:=by intro f;simp
      rw [h0,hr0] at hf
      simp only [h0,if_true,Sem.run_bind,Sem.run_pure,Result.andThen_ok,hr0,hf]
      simp [newRow]
    · simp only [h0,if_false,Sem.run_bind,Sem.run_pure,Result.andThen_ok,zeroValue,typeInfo,run_program,h3,h4,hf]
      simp [newRow]
  · exact .sl (off:=0) c (Nat.le_refl _) hmax (by rw [hsz];simp)
end
end Go.Th
namespace Go.Th
open Go.RowKit
theorem R.rewrite {m:Mp} {H:Xi} {w w':World} (h:R m H w) {id b d lim:Nat} {B:Blk} (hi:H[id]?=some (some B)) (ho:B.own=true) (hm:m.blk id=some (b,d,lim)) {cur':Array Value} {cs:List PV}
    (hs:w'.heap.size=w.heap.size) (hos:w'.os=w.os) (ht:w'.tape=w.tape) (hout:w'.output=w.output) (hother:∀ k,k≠b→w'.heap[k]?=w.heap[k]?) (hb:XcT w'.heap[b]? B.elem cur' d)
    (hsz:cur'.size=lim) (hlen:cs.length≤lim) (hcs:∀ (j:Nat) (c:PV),cs[j]?=some c→∃ v:Value,cur'[j]?=some v∧Rep m w c v∧v.oneCell'=true) :
    R m (H.set id (some { B with cells:=cs })) w'∧Le m w m w':=by
  obtain ⟨_,_,hk,_⟩:=h.blk id B b d lim hi hm
  have hk:=hk ho
  have hfree:∀ i C di li,i≠id→H[i]?=some (some C)→m.blk i=some (b,di,li)→False:=fun i C di li hne hi' hm'=>by
    obtain ⟨_,_,h1,h2⟩:=h.blk i C b di li hi' hm'
    cases hown:C.own with
    | true=>exact h.inj i id C B _ _ _ _ _ _ hne hi' hi hown ho hm' hm rfl
    | false=>exact hk (h.rk b (h2 hown))
  obtain ⟨h1,hle⟩:=(h.kill id).world (w':=w') (by omega) hos ht hout (fun k hk'=>hother k (fun e=>hk (e ▸ hk'))) (fun i C bi di li hi' hm'=>hother bi (fun e=>by
    subst e
    rcases XQ hi' with ⟨_,e⟩ | ⟨n1,e⟩
    · cases e
    · exact hfree i C di li n1 e hm'))
  refine ⟨?_,hle⟩
  have h2:=h1.put (id:=id) (b:=b) (lim:=lim) { B with cells:=cs } hm ⟨cur',hb,hsz,by simpa using hlen,fun j c hj=>?_⟩ ho hk (fun i C di li hne hi' _ hm'=>by
    rcases XQ hi' with ⟨e,_⟩ | ⟨n1,e⟩
    · exact hne e
    · exact hfree i C di li n1 e hm')
  · rwa [List.set_set] at h2
  · obtain ⟨v,a1,a2,a3⟩:=hcs j c hj
    exact ⟨v,by simpa using a1,a2.mono h.rk hle,a3⟩
def XdL (H:Xi) (p:PV) (cs:List PV):Option Xi :=
  match p with
  | .ptr id off=>match H[id]? with
    | some (some B)=>match B.own && Nat.ble (off+cs.length) B.cells.length with
      | true=>some (H.set id (some { B with cells:=Xaz B.cells off cs }))
      | false=>none
    | _=>none
  | _=>none
section
variable {P:Program} {E:Env} {H H':Xi} {o:Oper} {t s e:TypeId} {d:TypeDesc} {size bytes sz:Nat} {z:List Value} {fields:Array Field} {k:IntKind} {places:List (Nat × Nat)}
theorem Xhx [hi:HasI P t size bytes z] {x y:Operand} {p q:PV} (ho:o.op=.store t x y) (hx:E.ev x=some p) (hy:E.ev y=some q) (hsz:Nat.beq (cellsOf q).length size=true) (h1:(cellsOf q).all XZ=true)
    (hs:XdL H p (cellsOf q)=some H'):OpS P o E H H':=fun m w ρ hR hρ=>by
  obtain ⟨i,zv,h3,rfl,_⟩:=hi.i
  have hp:=hρ x p hx
  have hq:=Xbm (hρ y q hy)
  have hqs:(ρ y).cells.size=i.size:=by have:=hq.1;simp at this;rw [this];exact Nat.eq_of_beq_eq_true hsz
  have hp1:=hρ x p hx
  cases p with
  | ptr id off =>
    simp only [XdL] at hs
    split at hs
    · rename_i B hB
      split at hs
      · rename_i hb
        simp only [Bool.and_eq_true,Nat.ble_eq] at hb
        obtain ⟨hown,hle⟩:=hb
        cases hs
        generalize hv:ρ x=v at hp1
        cases hp1 with
        | @ptr _ _ b lim hm =>
          obtain ⟨_,⟨cur,c1,c2,c3,c4⟩,_,_⟩:=hR.blk id B b 0 lim hB hm
          have hlen:(ρ y).cells.toList.length=(cellsOf q).length:=hq.1
          have h1v:∀ u ∈ (ρ y).cells.toList,u.oneCell'=true:=fun u hu=>by
            obtain ⟨j,hj⟩:=List.mem_iff_getElem?.1 hu
            have hlt:j < (cellsOf q).length:=by rw [← hlen];exact (List.getElem?_eq_some_iff.1 hj).1
            obtain ⟨u',hu',hr,h1'⟩:=Xfr (vs:=(ρ y).cells) hq h1 j _ (List.getElem?_eq_getElem hlt)
            have:u=u':=by
              have e:(ρ y).cells.toList[j]?=some u':=by simpa using hu'
              rw [hj] at e;cases e;rfl
            rwa [this]
          have hst:=run_storeCells_at P b off B.elem.tid (ρ y).cells.toList 0 cur w c1 (by omega) h1v
          have hcurl:cur.toList.length=lim:=by simpa using c2
          have hrow:=setRow_heap w b cur ((cur.toList.take (off+0)++(ρ y).cells.toList++cur.toList.drop (off+0+(ρ y).cells.toList.length)).toArray) B.elem.tid (0,0) c1
          obtain ⟨r1,r2⟩:=hR.rewrite (w':=w.setRow b ((cur.toList.take (off+0)++(ρ y).cells.toList++cur.toList.drop (off+0+(ρ y).cells.toList.length)).toArray)) hB hown hm
            (cur':=(cur.toList.take (off+0)++(ρ y).cells.toList++cur.toList.drop (off+0+(ρ y).cells.toList.length)).toArray) (cs:=Xaz B.cells off (cellsOf q))
            (by simp [World.setRow]) rfl rfl rfl (fun k hk=>setRow_other w b k _ hk) hrow
            (by simp only [List.size_toArray,List.length_append,List.length_take,List.length_drop];omega)
            (by rw [Xac];omega) (fun j c hj=>by
              rw [XbK _ _ _ _ hle] at hj
              simp only [List.getElem?_toArray,Nat.add_zero]
              by_cases e:off≤j∧j < off+(cellsOf q).length
              · rw [if_pos e] at hj
                obtain ⟨u,a1,a2,a3⟩:=Xfr (vs:=(ρ y).cells) hq h1 _ c hj
                refine ⟨u,?_,a2,a3⟩
                rw [List.append_assoc,List.getElem?_append_right (by simp;omega),List.getElem?_append_left (by simp only [List.length_take];omega)]
                simp only [List.length_take]
                rw [show j - min off cur.toList.length=j - off from by omega]
                simpa using a1
              · rw [if_neg e] at hj
                obtain ⟨u,a1,a2,a3⟩:=c4 j c hj
                refine ⟨u,?_,a2,a3⟩
                have a1':cur.toList[j]?=some u:=by simpa using a1
                have hjl:j < B.cells.length:=(List.getElem?_eq_some_iff.1 hj).1
                rcases Nat.lt_or_ge j off with hlt | hge
                · rw [List.append_assoc,List.getElem?_append_left (by simp;omega),List.getElem?_take,if_pos hlt]
                  exact a1'
                · rw [List.getElem?_append_right (by simp only [List.length_append,List.length_take];omega),List.getElem?_drop]
                  simp only [List.length_append,List.length_take]
                  rw [show off+(ρ y).cells.toList.length+(j - (min off cur.toList.length+(ρ y).cells.toList.length))=j from by omega]
                  exact a1')
          refine ⟨m,_,?_,r2,r1⟩
          have hoff:(⟨b,0+off,none⟩:Addr)=⟨b,off,none⟩:=by simp
          simp only [execOp,ho,hv,Instr.storeAt,Instr.sureAddr,storeVar,Sem.run_bind,Sem.run_pure,Result.andThen_ok,Xap h3,hqs,ne_eq,not_true_eq_false,if_false,hoff,hst]
      · cases hs
    · cases hs
  | _=>simp [XdL] at hs
def Xu (H:Xi) (sz:Nat):PV→Option (Nat × List PV)
  | .sl id off len sz'=>match Nat.beq sz' sz with
    | true=>match H[id]? with
      | some (some B)=>match Xav (len * sz) (B.cells.drop off) with
        | some cs=>some (len,cs)
        | none=>none
      | _=>none
    | false=>none
  | .tr cells len sz'=>match Nat.beq sz' sz with
    | true=>some (len,cells)
    | false=>none
  | .v (.slice none 0 _)=>some (0,[])
  | _=>none
theorem Xbc {m:Mp} {w:World} (hR:R m H w) {p:PV} {n:Nat} {cs:List PV} {v:Value} (h:Rep m w p v) (hs:Xu H sz p=some (n,cs)) :
    ∃ a c,v=.slice a n c∧cs.length=n * sz∧(0 < n→∃ b o us,a=some ⟨b,o,none⟩∧CR m w cs us∧∀ (j:Nat) (u:Value),us[j]?=some u→w.cell? ⟨b,o+j,none⟩=some u):=by
  have list:∀ (cs:List PV) (b o:Nat),(∀ (j:Nat) (c:PV),cs[j]?=some c→∃ u,w.cell? ⟨b,o+j,none⟩=some u∧Rep m w c u)→∃ us,CR m w cs us∧∀ (j:Nat) (u:Value),us[j]?=some u→w.cell? ⟨b,o+j,none⟩=some u:=fun cs b o hc=>by
    refine ⟨(List.range cs.length).map fun j=>(w.cell? ⟨b,o+j,none⟩).getD undef,⟨by simp,fun j c hj=>?_⟩,fun j u hu=>?_⟩
    · have hlt:j < cs.length:=(List.getElem?_eq_some_iff.1 hj).1
      obtain ⟨u,hu,hr⟩:=hc j c hj
      exact ⟨u,by simp [hlt,hu],hr⟩
    · rw [List.getElem?_map] at hu
      rcases Nat.lt_or_ge j cs.length with hlt | hge
      · rw [List.getElem?_range hlt] at hu
        obtain ⟨u',hu',_⟩:=hc j _ (List.getElem?_eq_getElem hlt)
        simp only [Option.map_some,Option.some.injEq,hu',Option.getD_some] at hu
        subst hu
        exact hu'
      · rw [List.getElem?_eq_none (by simpa using hge)] at hu;cases hu
  cases h with
  | @sl id off len sz' b lim cap hm a1 a2 a3 =>
    simp only [Xu] at hs
    split at hs
    · rename_i hbq
      split at hs
      · rename_i B hB
        split at hs
        · rename_i cs' hcs
          cases hs
          obtain ⟨t1,rfl⟩:=(Xao _ _ _).1 hcs
          refine ⟨_,_,rfl,by simp only [List.length_take];omega,fun _=>?_⟩
          obtain ⟨us,u1,u2⟩:=list ((B.cells.drop off).take (n * sz)) b (0+off) (fun j c hj=>by
            obtain ⟨_,⟨cur,c1,c2,c3,c4⟩,_⟩:=hR.blk id B b 0 lim hB hm
            rw [List.getElem?_take] at hj
            split at hj
            · rw [List.getElem?_drop] at hj
              obtain ⟨u,hu,hru,_⟩:=c4 (off+j) c hj
              exact Zdc
            · cases hj)
          exact ⟨b,0+off,us,rfl,u1,u2⟩
        · cases hs
      · cases hs
    · cases hs
  | sl0 a =>
    simp only [Xu] at hs
    split at hs
    · split at hs
      · split at hs
        · rename_i cs' hcs
          cases hs
          obtain ⟨t1,rfl⟩:=(Xao _ _ _).1 hcs
          exact ⟨_,_,rfl,by simp,fun h=>by omega⟩
        · cases hs
      · cases hs
    · cases hs
  | @tr cells len sz' b o cap f hr hl a1 a2 hc hh =>
    simp only [Xu] at hs
    split at hs
    · rename_i hbq
      cases hs
      have:=Nat.eq_of_beq_eq_true hbq
      subst this
      obtain ⟨us,u1,u2⟩:=list cs b o (fun j c hj=>⟨f j,hc j c hj,hh j c hj⟩)
      exact ⟨_,_,rfl,hl,fun _=>⟨b,o,us,rfl,u1,u2⟩⟩
    · cases hs
  | tr0 a _ =>
    simp only [Xu] at hs
    split at hs
    · cases hs;exact ⟨_,_,rfl,by simp,fun h=>by omega⟩
    · cases hs
  | trn =>
    simp only [Xu] at hs
    split at hs
    · cases hs;exact ⟨_,_,rfl,by simp,fun h=>by omega⟩
    · cases hs
  | v _ hx=>cases v with
    | slice a n' c =>
      cases a with
      | none =>
        cases n' with
        | zero=>simp only [Xu] at hs;cases hs;exact ⟨_,_,rfl,by simp,fun h=>by omega⟩
        | succ n'=>simp [Xu] at hs
      | some a=>simp [Xu] at hs
    | _=>simp [Xu] at hs
  | _=>simp [Xu] at hs
def Xx (H:Xi) (e:TypeId) (sz:Nat) (p:PV) (k:Nat) (xs:List PV):Option (Nat × PV × Xi) :=
  match p with
  | .v (.slice none 0 0)=>some (k,.sl H.length 0 k sz,H++[some ⟨xs,e,true⟩])
  | .sl id 0 len sz'=>match Nat.beq sz' sz with
    | true=>match H[id]? with
      | some (some B)=>match B.own && Nat.beq B.elem.tid e && Nat.beq B.cells.length (len * sz) with
        | true=>some (len+k,.sl H.length 0 (len+k) sz,H.set id none++[some ⟨B.cells++xs,e,true⟩])
        | false=>none
      | _=>none
    | false=>none
  | _=>none
theorem Xa0 {i:TypeInfo} {w:World} (ht:P.underlying t=some (.slice e)) (hi:P.info? e=some i) (a:Option Addr) (n c:Nat) (hn:n≤c) (b:Option Addr) (c':Nat) (ty:TypeId) :
    (Builtin.append_ #[t,t] ty #[.slice a n c,.slice b 0 c']).run P w=.ok (.slice a n c) w:=by
  cases a <;> cases b <;> simp [Builtin.append_,run_underlying ht,sizeOf,typeInfo,hi,Builtin.lenOf,Builtin.firstCells,hn,storeCells,loadCells,loadCellsFrom]
theorem XkU {m:Mp} {w:World} {ps qs:List PV} {us vs:List Value} (h:CR m w ps us) (k:CR m w qs vs):CR m w (ps++qs) (us++vs):=by
  refine ⟨by simp [h.1,k.1],fun j c hj=>?_⟩
  rcases Nat.lt_or_ge j ps.length with hlt | hge
  · rw [List.getElem?_append_left hlt] at hj
    obtain ⟨u,hu,hr⟩:=h.2 j c hj
    exact ⟨u,by rw [List.getElem?_append_left (by rw [h.1];exact hlt)];exact hu,hr⟩
  · rw [List.getElem?_append_right hge] at hj
    obtain ⟨u,hu,hr⟩:=k.2 _ c hj
    exact ⟨u,by rw [List.getElem?_append_right (by rw [h.1];exact hge),h.1];exact hu,hr⟩
theorem XdB {m:Mp} {w:World} (hR:R m H w) {cs:List PV} {us rest:List Value} (hc:CR m w cs us) (h1:cs.all XZ=true) (e:TypeId) {cap n:Nat} (hn:n≤cap) (hm:cap≤maxLen)
    (hsz:us.length+rest.length=cap * sz) :
    ∃ m',Le m w m' (w.drew.alloc (.cells (us++rest).toArray e))∧R m' (H++[some ⟨cs,e,true⟩]) (w.drew.alloc (.cells (us++rest).toArray e)) ∧
      Rep m' (w.drew.alloc (.cells (us++rest).toArray e)) (.sl H.length 0 n sz) (.slice (some ⟨w.heap.size,0,none⟩) n cap):=by
  obtain ⟨hR1,hle1⟩:=hR.drew
  have hl:=hc.1
  obtain ⟨a,b⟩:=hR1.new cs e (us++rest).toArray (by simp;omega) (fun j c hj=>by
    obtain ⟨u,hu,hr⟩:=hc.2 j c hj
    have hlt:j < us.length:=(List.getElem?_eq_some_iff.1 hu).1
    exact ⟨u,by simpa [List.getElem?_append_left hlt] using hu,hr.mono hR.rk hle1,XbS hr (List.all_eq_true.1 h1 c (List.mem_of_getElem? hj))⟩)
  refine ⟨_,hle1.trans b,a,.sl (off:=0) (lim:=(us++rest).toArray.size) ?_ hn hm ?_⟩
  · show (if H.length=H.length then some (w.drew.heap.size,0,(us++rest).toArray.size) else _)=_
    rw [if_pos rfl];rfl
  · simp;omega
theorem Xcg [hu:HasU P t (.slice e)] [hi:HasI P e sz bytes z] {x y:Operand} {p q r:PV} {k n:Nat} {xs:List PV} (ho:o.op=.call { callee:=.builtin .append,args:=#[x,y],argTypes:=#[t,t] })
    (hx:E.ev x=some p) (hy:E.ev y=some q) (hzl:Nat.beq z.length sz=true) (hq:Xu H sz q=some (k,xs)) (h1:xs.all XZ=true) (ha:Xx H e sz p k xs=some (n,r,H')) (hb:n * bytes≤140737488355328) (h63:n≤9223372036854775807):OpW P o E H r H':=fun m w ρ hR hρ=>by
  obtain ⟨i,zv,h3,hsz,hby,h4,h5⟩:=hi.i
  subst hsz
  have hzs:zv.cells.size=i.size:=by have:=Nat.eq_of_beq_eq_true hzl;rw [← h5] at this;simpa using this
  obtain ⟨ay,cy,ey,hlx,hxs⟩:=Xbc hR (hρ y q hy) hq
  have hp:=hρ x p hx
  generalize hv:ρ x=vx at hp
  have hexec:∀ v' w',(Builtin.append_ #[t,t] o.type #[vx,.slice ay k cy]).run P w=.ok v' w'→(execOp ρ o).run P w=.ok (.value v') w':=fun v' w' h=>by
    simp [execOp,ho,resolve,invoke,builtin,ey,hv,h]
  have hmaxn:n≤maxLen:=by simp only [maxLen];omega
  rcases Nat.eq_zero_or_pos k with hk0 | hkp
  ·
    subst hk0
    have hxs0:xs=[]:=List.eq_nil_of_length_eq_zero (by simpa using hlx)
    subst hxs0
    cases hp with
    | v _ hv' =>
      cases vx with
      | slice a n' c =>
        cases a with
        | none =>
          cases n' with
          | zero =>
            cases c with
            | zero =>
              simp only [Xx] at ha
              cases ha
              exact Zdg
            | succ c=>simp [Xx] at ha
          | succ n'=>simp [Xx] at ha
        | some a=>simp [Xx] at ha
      | _=>simp [Xx] at ha
    | @sl id off len sz' b lim cap hm a1 a2 a3 =>
      cases off with
      | succ off=>simp [Xx] at ha
      | zero =>
        simp only [Xx] at ha
        split at ha
        · rename_i hbq
          have hbq:=Nat.eq_of_beq_eq_true hbq
          split at ha
          · rename_i B hB
            split at ha
            · rename_i hc
              simp only [Bool.and_eq_true] at hc
              obtain ⟨⟨hown,hel⟩,hlen⟩:=hc
              have hel:=Nat.eq_of_beq_eq_true hel
              have hlen:=Nat.eq_of_beq_eq_true hlen
              cases ha
              subst hbq
              obtain ⟨_,⟨cur,c1,c2,c3,c4⟩,hk,_⟩:=hR.blk id B b 0 lim hB hm
              obtain ⟨r1,r2⟩:=(hR.kill id).add (b:=b) (d:=0) (lim:=lim) ⟨B.cells++[],e,true⟩ ⟨cur,by show w.heap[b]?=some (.cells cur e (0,0));rw [← hel];exact c1,c2,by simpa using c3,fun j c hj=>c4 j c (by simpa using hj)⟩ rfl (hk hown) (fun j C dj lj hj hoj hmj=>by
                rcases XQ hj with ⟨_,e⟩ | ⟨n1,e⟩
                · cases e
                · exact hR.inj j id C B _ _ _ _ _ _ n1 e hB hoj hown hmj hm rfl)
              refine ⟨.slice (some ⟨b,0+0,none⟩) len cap,_,w,hexec _ _ (Xa0 hu.u h3 _ _ _ a1 ay cy _),r2,r1,?_⟩
              simp only [List.length_set]
              exact .sl (off:=0) (lim:=lim) (by simp) a1 a2 (by simpa using a3)
            · cases ha
          · cases ha
        · cases ha
    | @sl0 id off sz' a =>
      cases off with
      | succ off=>simp [Xx] at ha
      | zero =>
        simp only [Xx] at ha
        split at ha
        · split at ha
          · split at ha
            · cases ha
              exact Zdh
            · cases ha
          · cases ha
        · cases ha
    | _=>simp [Xx] at ha
  · obtain ⟨by_,oy,us,eay,hus,hcell⟩:=hxs hkp
    subst eay
    have husl:us.length=k * i.size:=hus.1.trans hlx
    have hnews:∀ (j:Nat) (v:Value),us[j]?=some v→w.cell? ((⟨by_,oy,none⟩:Addr).add j)=some v:=fun j v hj=>by rw [Addr.add_mk];exact hcell j v hj
    have h1u:∀ u ∈ us,u.oneCell'=true:=fun u hu=>by
      obtain ⟨j,hj⟩:=List.mem_iff_getElem?.1 hu
      have hlt:j < xs.length:=by rw [← hus.1];exact (List.getElem?_eq_some_iff.1 hj).1
      obtain ⟨u',hu',hr⟩:=hus.2 j _ (List.getElem?_eq_getElem hlt)
      rw [hj] at hu';cases hu'
      exact Zcg
    have fresh:∀ (G:Xi) (hG:R m G w),n=k→∀ a,vx=.slice a 0 0→∃ v m' w',(execOp ρ o).run P w=.ok (.value v) w'∧Le m w m' w'∧R m' (G++[some ⟨xs,e,true⟩]) w'∧Rep m' w' (.sl G.length 0 k i.size) v:=fun G hG hnk a hvx=>by
      subst hnk
      have hkb:n * i.bytes≤140737488355328:=by rw [hby];exact hb
      have hcap:n≤grownCap w n 0 e:=grownCap_ge w n 0 e
      have hcm:=grownCap_le_maxLen w n 0 e hmaxn
      obtain ⟨m',g1,g2,g3⟩:=XdB (sz:=i.size) (rest:=(Builtin.zeroCells zv.cells (grownCap w n 0 e - n)).toList) hG hus h1 e hcap hcm (by
        rw [husl,Array.length_toList,size_zeroCells,hzs,← Nat.add_mul];congr 1;omega)
      have harr:(us++(Builtin.zeroCells zv.cells (grownCap w n 0 e - n)).toList).toArray=us.toArray++Builtin.zeroCells zv.cells (grownCap w n 0 e - n):=by
        apply Array.ext';simp
      rw [harr] at g1 g2 g3
      refine ⟨_,m',_,?_,g1,g2,g3⟩
      cases a with
      | none=>exact hexec _ _ (by rw [hvx];exact run_append_nil (P:=P) w t _ e i zv hu.u h3 h4 ⟨by_,oy,none⟩ n cy us husl hnews hkp (by omega) (by omega))
      | some a =>
        have hg:=run_append_grow (P:=P) w t o.type e i zv hu.u h3 h4 a 0 0 [] (by simp) (by simp) ⟨by_,oy,none⟩ n cy us husl hnews (by omega) (by omega) (growslice_fits (by omega) (by simpa using hkb))
        simp only [Nat.zero_add] at hg
        refine hexec _ _ ?_
        rw [hvx,hg]
        simp
    cases hp with
    | v _ hv' =>
      cases vx with
      | slice a n' c =>
        cases a with
        | none =>
          cases n' with
          | zero =>
            cases c with
            | zero =>
              simp only [Xx] at ha
              cases ha
              exact fresh H hR rfl none rfl
            | succ c=>simp [Xx] at ha
          | succ n'=>simp [Xx] at ha
        | some a=>simp [Xx] at ha
      | _=>simp [Xx] at ha
    | @sl0 id off sz' a =>
      cases off with
      | succ off=>simp [Xx] at ha
      | zero =>
        simp only [Xx] at ha
        split at ha
        · split at ha
          · rename_i B hB
            split at ha
            · rename_i hc
              simp only [Bool.and_eq_true] at hc
              have hlen:=Nat.eq_of_beq_eq_true hc.2
              have hB0:B.cells=[]:=List.eq_nil_of_length_eq_zero (by simpa using hlen)
              cases ha
              rw [hB0]
              have:=fresh (H.set id none) (hR.kill id) (by omega) a rfl
              simpa using this
            · cases ha
          · cases ha
        · cases ha
    | @sl id off len sz' b lim cap hm a1 a2 a3 =>
      cases off with
      | succ off=>simp [Xx] at ha
      | zero =>
        simp only [Xx] at ha
        split at ha
        · rename_i hbq
          have hbq:=Nat.eq_of_beq_eq_true hbq
          split at ha
          · rename_i B hB
            split at ha
            · rename_i hc
              simp only [Bool.and_eq_true] at hc
              obtain ⟨⟨hown,hel⟩,hlen⟩:=hc
              have hel:=Nat.eq_of_beq_eq_true hel
              have hlen:=Nat.eq_of_beq_eq_true hlen
              cases ha
              subst hbq
              obtain ⟨_,⟨cur,c1,c2,c3,c4⟩,hk,_⟩:=hR.blk id B b 0 lim hB hm
              have c1:w.heap[b]?=some (.cells cur B.elem.tid (0,0)):=c1
              rw [hel] at c1
              have hcapsz:cap * i.size≤cur.size:=by rw [c2];simpa using a3
              have hlsz:len * i.size≤cur.size:=Nat.le_trans (Nat.mul_le_mul_right _ a1) hcapsz
              have holdl:(cur.toList.take (len * i.size)).length=len * i.size:=by simp;omega
              have holds:CR m w B.cells (cur.toList.take (len * i.size)):=by
                refine ⟨by rw [holdl,hlen],fun j c hj=>?_⟩
                obtain ⟨u,u1,u2,_⟩:=c4 j c hj
                have hjl:j < len * i.size:=by rw [← hlen];exact (List.getElem?_eq_some_iff.1 hj).1
                exact ⟨u,by rw [List.getElem?_take,if_pos hjl];simpa using u1,u2⟩
              have hB1:(B.cells++xs).all XZ=true:=by
                rw [List.all_append,h1,Bool.and_true]
                refine List.all_eq_true.2 fun c hc=>?_
                obtain ⟨j,hj⟩:=List.mem_iff_getElem?.1 hc
                obtain ⟨u,_,u2,u3⟩:=c4 j c hj
                cases c <;> first | rfl | skip
                · cases u2;exact u3
                · cases u2;exact absurd u3 (by simp [Value.oneCell'])
                · cases u2;exact absurd u3 (by simp [Value.oneCell'])
              have happ:=XkU holds hus
              have hfree:∀ (j:Nat) (C:Blk) (dj lj:Nat),(H.set id none)[j]?=some (some C)→C.own=true→m.blk j≠some (b,dj,lj):=fun j C dj lj hj hoj hmj=>by
                rcases XQ hj with ⟨_,e⟩ | ⟨n1,e⟩
                · cases e
                · exact Zch
              by_cases hroom:len+k≤cap
              ·
                have hr:=run_append_room (P:=P) w t o.type e i hu.u h3 b len cap cur c1 ⟨by_,oy,none⟩ k cy us husl hnews h1u hroom (by rw [husl,← Nat.add_mul];exact Nat.le_trans (Nat.mul_le_mul_right _ hroom) hcapsz)
                have hrow:=setRow_heap w b cur ((cur.toList.take (len * i.size)++us++cur.toList.drop (len * i.size+us.length)).toArray) e (0,0) c1
                have hbk:=hk hown
                obtain ⟨q1,q2⟩:=(hR.kill id).world (w':=w.setRow b ((cur.toList.take (len * i.size)++us++cur.toList.drop (len * i.size+us.length)).toArray)) (by simp [World.setRow]) rfl rfl rfl
                  (fun k' hk'=>setRow_other w b k' _ (fun e=>hbk (e ▸ hk'))) (fun j C bj dj lj hj hmj=>setRow_other w b bj _ (fun e=>by
                    subst e
                    cases hoC:C.own with
                    | true=>exact hfree j C dj lj hj hoC hmj
                    | false =>
                      rcases XQ hj with ⟨_,e⟩ | ⟨_,e⟩
                      · cases e
                      · exact hbk (hR.rk _ ((hR.blk j C _ dj lj e hmj).2.2.2 hoC))))
                have hsz2:((cur.toList.take (len * i.size)++us++cur.toList.drop (len * i.size+us.length)).toArray).size=lim:=by
                  have:len * i.size+us.length≤cur.size:=by rw [husl,← Nat.add_mul];exact Nat.le_trans (Nat.mul_le_mul_right _ hroom) hcapsz
                  simp only [List.size_toArray,List.length_append,holdl,List.length_drop,Array.length_toList];omega
                obtain ⟨r1,r2⟩:=q1.add (b:=b) (d:=0) (lim:=lim) ⟨B.cells++xs,e,true⟩ ⟨_,hrow,hsz2,by
                    rw [← hsz2];simp only [List.size_toArray,List.length_append,holdl,hlen,hus.1];omega,fun j c hj=>by
                    obtain ⟨u,u1,u2⟩:=happ.2 j c hj
                    refine ⟨u,?_,u2.mono hR.rk q2,XbS u2 (List.all_eq_true.1 hB1 c (List.mem_of_getElem? hj))⟩
                    simp only [List.getElem?_toArray,Nat.zero_add]
                    rw [List.getElem?_append_left ((List.getElem?_eq_some_iff.1 u1).1)]
                    exact u1⟩ rfl hbk hfree
                refine ⟨.slice (some ⟨b,0,none⟩) (len+k) cap,_,_,hexec _ _ (by simpa using hr),q2.trans r2,r1,?_⟩
                simp only [List.length_set]
                exact .sl (off:=0) (lim:=lim) (by simp) hroom a2 (by simpa using a3)
              ·
                have holdv:∀ (j:Nat) (v:Value),(cur.toList.take (len * i.size))[j]?=some v→w.cell? ((⟨b,0,none⟩:Addr).add j)=some v:=fun j v hj=>by
                  rw [Addr.add_mk,cell_of_row w b _ cur e (0,0) c1]
                  rw [List.getElem?_take] at hj
                  split at hj
                  · simpa using hj
                  · cases hj
                have hkb:(len+k) * i.bytes≤140737488355328:=by rw [hby];exact hb
                have hg:=run_append_grow (P:=P) w t o.type e i zv hu.u h3 h4 ⟨b,0,none⟩ len cap (cur.toList.take (len * i.size)) holdl holdv ⟨by_,oy,none⟩ k cy us husl hnews (by omega) (by omega) (growslice_fits (by omega) hkb)
                have hcap:=grownCap_ge w (len+k) cap e
                have hcm:=grownCap_le_maxLen w (len+k) cap e hmaxn
                obtain ⟨m',g1,g2,g3⟩:=XdB (sz:=i.size) (rest:=(Builtin.zeroCells zv.cells (grownCap w (len+k) cap e - (len+k))).toList) (hR.kill id) happ hB1 e hcap hcm (by
                  rw [List.length_append,holdl,husl,Array.length_toList,size_zeroCells,hzs,← Nat.add_mul,← Nat.add_mul];congr 1;omega)
                have harr:(cur.toList.take (len * i.size)++us++(Builtin.zeroCells zv.cells (grownCap w (len+k) cap e - (len+k))).toList).toArray=(cur.toList.take (len * i.size)).toArray++us.toArray++Builtin.zeroCells zv.cells (grownCap w (len+k) cap e - (len+k)):=by
                  apply Array.ext';simp
                rw [harr] at g1 g2 g3
                exact Zci
            · cases ha
          · cases ha
        · cases ha
    | _=>simp [Xx] at ha
end
end Go.Th
namespace Go.Th
open Go.RowKit
def RVal (P:Program) (E:Env) (H:Xi):ResultVar→PV→Prop
  | .tmp t,p=>E.get t=some p
  | .cell a t,p=>∃ d i q,P.underlying t=some d∧P.info? t=some i∧E.get a=some q∧XdQ d i.size H q=some p
theorem Xhv {P:Program} {E:Env} {H:Xi} {a:Tmp} {t:TypeId} {d:TypeDesc} {size bytes:Nat} {z:List Value} {p q:PV} [hu:HasU P t d] [hi:HasI P t size bytes z] (h:E.get a=some q) (hl:XdQ d size H q=some p):RVal P E H (.cell a t) p:=by
  obtain ⟨i,zv,h1,rfl,_⟩:=hi.i
  exact ⟨d,i,q,hu.u,h1,h,hl⟩
def Xqw (P:Program) (E:Env) (H:Xi):List ResultVar→List PV→Prop
  | [],[]=>True
  | r::rs,p::ps=>RVal P E H r p∧Xqw P E H rs ps
  | _,_=>False
def XqM:List PV→PV
  | [p]=>p
  | ps=>.tup ps
def XiL (a:Act):ResultVar→Sem Value
  | .tmp t=>pure (a.tmps.getD t undef)
  | .cell x t=>do loadVar t (← asAddr (a.tmps.getD x undef))
theorem Xfz (fn:Func) (a:Act):results fn a.tmps=(do let vs ← fn.results.mapM (XiL a);pure (if h:vs.size=1 then vs[0] else .tuple vs)):=rfl
theorem Xdq {P:Program} {m:Mp} {E:Env} {H:Xi} {a:Act} {w:World} (hR:R m H w) (hF:FR m w E a) {fn:Func} {ps:List PV} (h:Xqw P E H fn.results.toList ps) :
    ∃ v,(results fn a.tmps).run P w=.ok v w∧Rep m w (XqM ps) v:=by
  have key:∀ (rs:List ResultVar) (ps:List PV),Xqw P E H rs ps→∃ vs:List Value,(rs.mapM (XiL a)).run P w=.ok vs w∧CR m w ps vs:=by
    intro rs
    induction rs with
    | nil =>
      intro ps h
      cases ps with
      | nil=>exact ⟨[],by simp,rfl,fun j c hj=>by simp at hj⟩
      | cons p ps=>exact h.elim
    | cons r rs ih =>
      intro ps h
      cases ps with
      | nil=>exact h.elim
      | cons p ps =>
        obtain ⟨h1,h2⟩:=h
        obtain ⟨vs,hv,hc⟩:=ih ps h2
        have hone:∃ v,(XiL a r).run P w=.ok v w∧Rep m w p v:=by
          cases r with
          | tmp t=>exact ⟨_,rfl,hF t p h1⟩
          | cell x t =>
            obtain ⟨d,i,q,hd,hi,hq,hl⟩:=h1
            obtain ⟨ad,u,e,hrun,hr⟩:=XcI hR hd hi (hF x q hq) hl
            exact ⟨u,by simp [XiL,e,asAddr,hrun],hr⟩
        obtain ⟨v,hv1,hr⟩:=hone
        refine ⟨v::vs,?_,by simp [hc.1],fun j c hj=>?_⟩
        · rw [List.mapM_cons]
          simp only [Sem.run_bind,hv1,Result.andThen_ok,hv,Sem.run_pure]
        · cases j with
          | zero=>simp at hj;subst hj;exact ⟨v,rfl,hr⟩
          | succ j=>simpa using hc.2 j c (by simpa using hj)
  obtain ⟨vs,hv,hc⟩:=key _ _ h
  refine ⟨if h:vs.toArray.size=1 then vs.toArray[0] else .tuple vs.toArray,?_,?_⟩
  · rw [Xfz,Array.mapM_eq_mapM_toList]
    simp only [Sem.run_bind,Sem.run_map,hv,Result.andThen_ok,Sem.run_pure]
  · by_cases h1:vs.toArray.size=1
    · rw [dif_pos h1]
      have hl:ps.length=1:=by have:=hc.1;simp at h1;omega
      match ps,hl with
      | [p],_ =>
        obtain ⟨u,hu,hr⟩:=hc.2 0 p rfl
        have hvl:vs.length=1:=by simpa using h1
        obtain ⟨x,rfl⟩:=List.length_eq_one_iff.1 hvl
        have:x=u:=by simpa using hu
        subst this
        exact hr
    · rw [dif_neg h1]
      have hl:ps.length≠1:=by have:=hc.1;simp at h1;omega
      have e:XqM ps=.tup ps:=by
        match ps,hl with
        | [],_=>rfl
        | [p],h=>exact absurd rfl h
        | _::_::_,_=>rfl
      rw [e]
      refine .tup vs.toArray (by simp [hc.1]) fun j c hj=>?_
      obtain ⟨u,hu,hr⟩:=hc.2 j c hj
      simpa [Array.getD_eq_getD_getElem?,hu] using hr
theorem XkJ {w:World} {b:Nat} {x y:Option (List Deferred)} (h:w.heap[b]?=some (.deferred x)) (c o:Nat):(w.putObj b (.deferred y)).cell? ⟨c,o,none⟩=w.cell? ⟨c,o,none⟩:=by
  by_cases e:c=b
  · subst e
    have hlt:c < w.heap.size:=(Array.getElem?_eq_some_iff.1 h).1
    simp only [World.cell?,World.putObj_heap_same hlt,h]
  · exact World.cell?_of_block (World.putObj_heap_other e)
theorem Rep.putMark {m:Mp} {w:World} {b:Nat} {x y:Option (List Deferred)} (h:w.heap[b]?=some (.deferred x)) {p:PV} {v:Value} (r:Rep m w p v):Rep m (w.putObj b (.deferred y)) p v :=
  r.mono' (fun _ _ h=>h) (fun _ h=>h) (fun c o _=>XkJ h c o)
theorem XhO {o:Option Obj} {e:Elem} {cur:Array Value} {d:Nat} {x:Option (List Deferred)} (h:XcT o e cur d):o≠Option.some (Obj.deferred x):=by
  rintro rfl
  unfold XcT at h
  split at h
  · cases h
  · obtain ⟨_,_,h,_⟩:=h;cases h
  · obtain ⟨_,_,h,_⟩:=h;cases h
  · obtain ⟨_,_,_,_,h,_⟩:=h;cases h
  · obtain ⟨_,_,_,_,_,_,_,_,_,_,_,_,h,_⟩:=h;cases h
theorem R.putMark {m:Mp} {H:Xi} {w:World} (h:R m H w) {b:Nat} {x y:Option (List Deferred)} (hb:w.heap[b]?=some (.deferred x)):R m H (w.putObj b (.deferred y)):=by
  refine ⟨h.rk,fun c hc=>by simpa using h.kl c hc,h.dom,fun id B c d lim hi hm=>?_,h.inj,h.top⟩
  obtain ⟨h0,⟨cur,h1,h2,h3,h4⟩,h5⟩:=h.blk id B c d lim hi hm
  have hne:c≠b:=fun e=>by subst e;exact XhO h1 hb
  exact ⟨h0,⟨cur,by rw [World.putObj_heap_other hne];exact h1,h2,h3,fun j p hj=>let ⟨v,v1,v2,v3⟩:=h4 j p hj;⟨v,v1,v2.putMark hb,v3⟩⟩,h5⟩
theorem Xpp {P:Program} {fn:Func} {R':Ending→World→Prop} {m0:Mp} {w0:World} {H:Xi} {E:Env} {a:Act}:∀ (bs:List Nat) (m:Mp) (w:World),bs.Nodup→(∀ b ∈ bs,m.keep b∧¬ m0.keep b∧w.heap[b]?=some (.deferred (some []))) →
    Le m0 w0 m w→R m H w→FR m w E a→(∀ m' w',Le m0 w0 m' w'→R m' H w'→FR m' w' E a→∃ v,(results fn a.tmps).run P w'=.ok v w'∧R' (.returned v) w') →
    LeavesInM Fence.wide 0 P fn a.tmps R' (bs.map fun b=>{ target:=.collected b,args:=#[] }) .returning w
  | [],m,w,_,_,hl,hR,hF,k=>by
    obtain ⟨v,h1,h2⟩:=k m w hl hR hF
    exact ⟨v,h1,h2⟩
  | b::bs,m,w,hn,hb,hl,hR,hF,k=>by
    rw [List.nodup_cons] at hn
    obtain ⟨h1,h2,h3⟩:=hb b (by simp)
    refine ⟨by simp,.inl ⟨b,_,rfl,run_takeDeferred h3,?_⟩⟩
    refine Xpp bs m _ hn.2 (fun c hc=>?_) ?_ (hR.putMark h3) (fun t p ht=>(hF t p ht).putMark h3) k
    · obtain ⟨c1,c2,c3⟩:=hb c (by simp [hc])
      have hne:c≠b:=fun e=>hn.1 (e ▸ hc)
      exact ⟨c1,c2,(World.putObj_heap_other hne).trans c3⟩
    · exact ⟨hl.blk,hl.ro,hl.keep,fun c hc=>(World.putObj_heap_other (fun e:c=b=>h2 (by rw [← e];exact hc))).trans (hl.same c hc),by simpa using hl.size,hl.os,hl.tape,hl.output,hl.fresh,hl.top,hl.old⟩
theorem Xhn {P:Program} {f:FuncId} {fn:Func} {c:Code} {args:Array Value} {w:World} {R':Ending→World→Prop} {Q:QA} {n:Nat} {m0:Mp} (hf:P.funcs[f]?=some fn) (hb:fn.body=some c)
    (h:c.wpIn (fen none) 0 P (Qr none m0 w n Q) { tmps:=args++Array.replicate (fn.ntmps - args.size) undef,defers:=[] } w)
    (k:∀ e E H,Q e E H→(e=.normal∨e=.ret)∧∀ a m' w',Le m0 w m' w'→R m' H w'→FR m' w' E a→∃ v,(results fn a.tmps).run P w'=.ok v w'∧R' (.returned v) w'):Calls P f args w R':=by
  refine callsIn_wide.1 (callsIn_of_wp_marks (n:=0) hf hb trivial (wpIn_mono h ?_) rfl)
  rintro e a w' ⟨E,H,hq,_,_,m,⟨hl,bs,b1,b2,b3⟩,hR,hF⟩
  obtain ⟨he,hk⟩:=k e E H hq
  rcases he with rfl | rfl
  · show LeavesInM _ _ _ _ _ _ a.defers _ _
    rw [b2]
    exact Xpp bs m w' b1 b3 hl hR hF (fun m' w' h1 h2 h3=>hk a m' w' h1 h2 h3)
  · show LeavesInM _ _ _ _ _ _ a.defers _ _
    rw [b2]
    exact Xpp bs m w' b1 b3 hl hR hF (fun m' w' h1 h2 h3=>hk a m' w' h1 h2 h3)
def Xry (P:Program) (fn:Func) (Q:PV→Xi→Prop):QA:=fun e E H=>(e=.normal∨e=.ret)∧∃ ps,Xqw P E H fn.results.toList ps∧Q (XqM ps) H
theorem Xv {P:Program} {f:FuncId} {fn:Func} {c:Code} {args:List PV} {H:Xi} {Q:PV→Xi→Prop} (hf:P.funcs[f]?=some fn) (hb:fn.body=some c) (hname:(fn.name == "runtime.NumGoroutine")=false)
    (hsz:Nat.ble args.length fn.ntmps=true) (h:wpA P fn.ntmps c (Xry P fn Q) (XbF 0 args) H):AC P f args H Q:=by
  refine ⟨⟨fn,hf,hname,by rw [hb];rfl⟩,fun m w vals hR hv=>?_⟩
  have hsz:=Nat.le_of_ble_eq_true hsz
  have hvs:vals.size=args.length:=hv.1
  refine Xhn hf hb (h none m w _ w ⟨by simp;omega,RdK.none _ _,m,LeD.refl m w,hR,fun t p ht=>?_⟩) ?_
  · obtain ⟨_,ht'⟩:=Xcc args 0 t p ht
    simp only [Nat.sub_zero] at ht'
    have hlt:t < vals.size:=by rw [hvs];exact (List.getElem?_eq_some_iff.1 ht').1
    have:=hv.2 t p ht'
    simpa [Array.getD_eq_getD_getElem?,Array.getElem?_append_left hlt] using this
  · rintro e E' H' ⟨he,ps,hps,hq⟩
    refine ⟨he,fun a m' w' hle hR' hF'=>?_⟩
    obtain ⟨v,hrun,hr⟩:=Xdq hR' hF' hps
    exact ⟨v,hrun,v,_,H',m',rfl,hq,hr,hR',hle⟩
def Xk (p:PV):Prop:=∀ m w v,Rep m w p v→Rep { m with blk:=fun _=>none } w p v
theorem Xk.v (x:Value):Xk (.v x):=fun m w v h=>by cases h with | v _ hx=>exact .v _ hx
theorem Xk.tr {cells:List PV} {len sz:Nat} (h:∀ c ∈ cells,Xk c):Xk (.tr cells len sz):=fun m w v hr=>by
  cases hr with
  | tr f a b c d e g=>exact .tr f a b c d e fun j q hj=>h q (List.mem_of_getElem? hj) m w _ (g j q hj)
  | tr0 a b=>exact .tr0 a b
  | trn=>exact .trn
theorem Xk.ept {cells:List PV} {off:Nat} (h:∀ c ∈ cells,Xk c):Xk (.ept cells off):=fun m w v hr=>by
  cases hr with
  | ept f a b c=>exact .ept f a b fun j q hj=>h q (List.mem_of_getElem? hj) m w _ (c j q hj)
theorem Xk.agg {cells:List PV} (h:∀ c ∈ cells,Xk c):Xk (.agg cells):=fun m w v hr=>by
  cases hr with
  | agg vs a b=>exact .agg vs a fun j q hj=>h q (List.mem_of_getElem? hj) m w _ (b j q hj)
theorem Xk.tup {cells:List PV} (h:∀ c ∈ cells,Xk c):Xk (.tup cells):=fun m w v hr=>by
  cases hr with
  | tup vs a b=>exact .tup vs a fun j q hj=>h q (List.mem_of_getElem? hj) m w _ (b j q hj)
theorem Xk.fn {f:Fn} {cells:List PV} (h:∀ c ∈ cells,Xk c):Xk (.fn f cells):=fun m w v hr=>by
  cases hr with
  | fn vs a b=>exact .fn vs a fun j q hj=>h q (List.mem_of_getElem? hj) m w _ (b j q hj)
theorem Xs:∀ c ∈ ([]:List PV),Xk c:=fun _ h=>by cases h
theorem Xa {p:PV} {ps:List PV} (h:Xk p) (k:∀ c ∈ ps,Xk c):∀ c ∈ p::ps,Xk c:=fun c hc=>by
  rcases List.mem_cons.1 hc with rfl | h'
  · exact h
  · exact k c h'
inductive Conv (H:Xi):PV→PV→Prop
  | refl (p:PV):Conv H p p
  | sl {id off len sz:Nat} {B:Blk} {cs ds:List PV} (hB:H[id]?=some (some B)) (h:Xav (len * sz) (B.cells.drop off)=some cs) (hl:ds.length=cs.length) (hc:∀ (j:Nat) (c d:PV),cs[j]?=some c→ds[j]?=some d→Conv H c d) :
      Conv H (.sl id off len sz) (.tr ds len sz)
  | agg {cs ds:List PV} (hl:ds.length=cs.length) (hc:∀ (j:Nat) (c d:PV),cs[j]?=some c→ds[j]?=some d→Conv H c d):Conv H (.agg cs) (.agg ds)
  | tup {cs ds:List PV} (hl:ds.length=cs.length) (hc:∀ (j:Nat) (c d:PV),cs[j]?=some c→ds[j]?=some d→Conv H c d):Conv H (.tup cs) (.tup ds)
def closed (m:Mp) (H:Xi):Mp:={ m with ro:=fun b=>m.ro b∨∃ id B d lim,H[id]?=some (some B)∧m.blk id=some (b,d,lim),keep:=fun b=>m.keep b∨∃ id B d lim,H[id]?=some (some B)∧m.blk id=some (b,d,lim) }
theorem Xfm {m:Mp} {H:Xi} {w:World} (h:R m H w):Le m w (closed m H) w :=
  ⟨fun _ _ h=>h,fun _ h=>.inl h,fun _ h=>.inl h,fun _ _=>rfl,Nat.le_refl _,rfl,rfl,rfl,fun b hb=>by
    rcases hb with hb | ⟨id,B,d,lim,hB,hm⟩
    · exact .inl hb
    · obtain ⟨_,_,h1,h2⟩:=h.blk id B b d lim hB hm
      cases ho:B.own with
      | true=>exact .inr (h1 ho)
      | false=>exact .inl (h2 ho),rfl,fun _ _=>rfl⟩
theorem Conv.rep {m:Mp} {H:Xi} {w:World} (h:R m H w) {p q:PV} (hc:Conv H p q):∀ {v:Value},Rep (closed m H) w p v→Rep (closed m H) w q v:=by
  induction hc with
  | refl p=>exact fun hr=>hr
  | @sl id off len sz B cs ds hB ht hl hc ih =>
    intro v hr
    obtain ⟨t1,rfl⟩:=(Xao _ _ _).1 ht
    have hcl:((B.cells.drop off).take (len * sz)).length=len * sz:=by simp only [List.length_take];omega
    cases hr with
    | @sl _ _ _ _ b lim cap hm a1 a2 a3 =>
      obtain ⟨_,⟨cur,c1,c2,c3,c4⟩,_⟩:=h.blk id B b 0 lim hB hm
      refine .tr (b:=b) (o:=0+off) (fun j=>cur.getD (0+off+j) undef) (.inr ⟨id,B,0,lim,hB,hm⟩) (by omega) a1 a2 (fun j q hj=>?_) (fun j q hj=>?_)
      all_goals
        have hlt:j < ((B.cells.drop off).take (len * sz)).length:=by rw [← hl];exact (List.getElem?_eq_some_iff.1 hj).1
        have hj':=List.getElem?_eq_getElem hlt
        have hj2:=hj'
        rw [List.getElem?_take,if_pos (by omega),List.getElem?_drop] at hj2
        obtain ⟨u,u1,u2,_⟩:=c4 _ _ hj2
        have u1':cur[0+off+j]?=some u:=by rw [Nat.add_assoc];exact u1
        have hg:cur.getD (0+off+j) undef=u:=by rw [Array.getD_eq_getD_getElem?,u1'];rfl
      · rw [cell_of_row w b _ cur B.elem.tid (0,0) c1,u1',hg]
      · simp only [hg]
        exact ih j _ q hj' hj (u2.mono h.rk (Xfm h))
    | sl0 a =>
      have hds:ds=[]:=List.eq_nil_of_length_eq_zero (by rw [hl];simp)
      subst hds
      cases a with
      | some a=>exact .tr0 a (by simp [maxLen])
      | none=>exact .trn
  | agg hl hc ih =>
    intro v hr
    cases hr with
    | agg vs a b =>
      refine .agg vs (a.trans hl.symm) fun j q hj=>?_
      have hlt:=(List.getElem?_eq_some_iff.1 hj).1
      rw [hl] at hlt
      exact ih j _ q (List.getElem?_eq_getElem hlt) hj (b j _ (List.getElem?_eq_getElem hlt))
  | tup hl hc ih =>
    intro v hr
    cases hr with
    | tup vs a b =>
      refine .tup vs (a.trans hl.symm) fun j q hj=>?_
      have hlt:=(List.getElem?_eq_some_iff.1 hj).1
      rw [hl] at hlt
      exact ih j _ q (List.getElem?_eq_getElem hlt) hj (b j _ (List.getElem?_eq_getElem hlt))
def Iso (P:Program) (f:FuncId) (args:List PV) (Q:PV→Prop):Prop :=
  (∃ fn,P.funcs[f]?=some fn∧(fn.name == "runtime.NumGoroutine")=false∧fn.body.isNone=false) ∧
  ∀ m w vals,(∀ b,m.ro b→m.keep b)→(∀ b,m.keep b→b < w.heap.size)→(∀ id,m.blk id=none)→Xek m w args vals →
    Calls P f vals w fun e w'=>∃ v p m',e=.returned v∧Q p∧Rep m' w' p v∧(∀ id,m'.blk id=none)∧Le m w m' w'∧(∀ b,m'.ro b→m'.keep b)∧(∀ b,m'.keep b→b < w'.heap.size)
def Xlf (P:Program) (fn:Func) (Q:PV→Prop):QA:=fun e E H=>(e=.normal∨e=.ret)∧∃ ps q,Xqw P E H fn.results.toList ps∧Conv H (XqM ps) q∧Xk q∧Q q
theorem Xb {P:Program} {f:FuncId} {fn:Func} {c:Code} {args:List PV} {Q:PV→Prop} (hf:P.funcs[f]?=some fn) (hb:fn.body=some c) (hname:(fn.name == "runtime.NumGoroutine")=false)
    (hsz:Nat.ble args.length fn.ntmps=true) (h:wpA P fn.ntmps c (Xlf P fn Q) (XbF 0 args) []):Iso P f args Q:=by
  refine ⟨⟨fn,hf,hname,by rw [hb];rfl⟩,fun m w vals h1 h2 h3 hv=>?_⟩
  have hR:R { m with top:=0 } [] w:=R.nil h1 h2 h3 rfl
  have hv:Xek { m with top:=0 } w args vals:=⟨hv.1,fun j c hj=>Rep.mono' (m:=m) (m':={ m with top:=0 }) (w':=w) (fun _ _ h=>h) (fun _ h=>h) (fun _ _ _=>rfl) (hv.2 j c hj)⟩
  have hsz:=Nat.le_of_ble_eq_true hsz
  have hvs:vals.size=args.length:=hv.1
  refine Xhn hf hb (h none { m with top:=0 } w _ w ⟨by simp;omega,RdK.none _ _,{ m with top:=0 },LeD.refl _ w,hR,fun t p ht=>?_⟩) ?_
  · obtain ⟨_,ht'⟩:=Xcc args 0 t p ht
    simp only [Nat.sub_zero] at ht'
    have hlt:t < vals.size:=by rw [hvs];exact (List.getElem?_eq_some_iff.1 ht').1
    have:=hv.2 t p ht'
    simpa [Array.getD_eq_getD_getElem?,Array.getElem?_append_left hlt] using this
  · rintro e E' H' ⟨he,ps,q,hps,hconv,htree,hq⟩
    refine ⟨he,fun a m' w' hle hR' hF'=>?_⟩
    obtain ⟨v,hrun,hr⟩:=Xdq hR' hF' hps
    have hcl:=Xfm hR'
    have hrep:=htree _ w' v (hconv.rep hR' (hr.mono hR'.rk hcl))
    have hle2:=hle.trans hcl
    have fin:∃ v1 p m',Ending.returned v=.returned v1∧Q p∧Rep m' w' p v1∧(∀ id,m'.blk id=none)∧Le m w m' w'∧(∀ b,m'.ro b→m'.keep b)∧(∀ b,m'.keep b→b < w'.heap.size):=by
      refine ⟨v,q,{ closed m' H' with blk:=fun _=>none,top:=m.top },rfl,hq,Rep.mono' (m:={ closed m' H' with blk:=fun _=>none }) (m':={ closed m' H' with blk:=fun _=>none,top:=m.top }) (w:=w') (w':=w') (fun _ _ h=>h) (fun _ h=>h) (fun _ _ _=>rfl) hrep,fun _=>rfl,?_,fun b hb=>?_,fun b hb=>?_⟩
      · exact ⟨(fun id x hx=>by rw [h3 id] at hx;cases hx),hle2.ro,hle2.keep,hle2.same,hle2.size,hle2.os,hle2.tape,hle2.output,hle2.fresh,rfl,fun id _=>(h3 id).symm⟩
      · rcases hb with hb | hb
        · exact .inl (hR'.rk b hb)
        · exact .inr hb
      · rcases hb with hb | ⟨id,B,d,lim,hB,hm⟩
        · exact hR'.kl b hb
        · exact hR'.lt hB hm
    exact ⟨v,hrun,fin⟩
section
variable {P:Program} {n:Nat} {Q:QA} {E:Env} {H:Xi} {ops:Array Oper} {rest:List Oper}
theorem Iso.mono {f:FuncId} {args:List PV} {Q Q':PV→Prop} (h:Iso P f args Q) (hq:∀ p,Q p→Q' p):Iso P f args Q' :=
  ⟨h.1,fun m w vals h1 h2 h3 h4=>(h.2 m w vals h1 h2 h3 h4).mono fun _ _ ⟨v,p,m',a,b,c⟩=>⟨v,p,m',a,hq _ b,c⟩⟩
theorem Iso.AC {f:FuncId} {args:List PV} {Q:PV→Prop} (h:Iso P f args Q) (ht:∀ c ∈ args,Xk c):AC P f args H (fun p H'=>Q p∧H'=H):=by
  refine ⟨h.1,fun m w vals hR hv=>?_⟩
  have hv':Xek { blk:=fun _=>none,ro:=m.ro,keep:=fun b=>b < w.heap.size } w args vals:=⟨hv.1,fun j c hj=>by
    have h1:=ht c (List.mem_of_getElem? hj) m w _ (hv.2 j c hj)
    exact Rep.mono' (m:={ m with blk:=fun _=>none }) (m':={ blk:=fun _=>none,ro:=m.ro,keep:=fun b=>b < w.heap.size }) (w':=w) (fun _ _ h=>h) (fun _ h=>h) (fun _ _ _=>rfl) h1⟩
  refine (h.2 { blk:=fun _=>none,ro:=m.ro,keep:=fun b=>b < w.heap.size } w vals (fun b hb=>hR.kl b (hR.rk b hb)) (fun b hb=>hb) (fun _=>rfl) hv').mono ?_
  rintro e w' ⟨v,p,m',rfl,hq,hr,hn,hle,hk1,hk2⟩
  have hfresh:∀ b,m'.ro b→m.ro b∨w.heap.size≤b:=fun b hb=>(hle.fresh b hb).elim .inl (fun h=>.inr (Nat.le_of_not_lt h))
  have hsame:∀ b,b < w.heap.size→w'.heap[b]?=w.heap[b]?:=fun b hb=>hle.same b hb
  have hlek:Le m w { blk:=m.blk,ro:=m'.ro,keep:=fun b=>m.keep b∨m'.ro b,top:=m.top } w' :=
    ⟨fun _ _ h=>h,fun b hb=>hle.ro b hb,fun b hb=>.inl hb,fun b hb=>hsame b (hR.kl b hb),hle.size,hle.os,hle.tape,hle.output,fun b hb=>(hfresh b hb).elim .inl (fun h1=>.inr fun h2=>by have:=hR.kl b h2;omega),rfl,fun _ _=>rfl⟩
  refine ⟨v,p,H,{ blk:=m.blk,ro:=m'.ro,keep:=fun b=>m.keep b∨m'.ro b,top:=m.top },rfl,⟨hq,rfl⟩,?_,?_,hlek⟩
  · refine Rep.mono' (m:=m') (m':={ blk:=m.blk,ro:=m'.ro,keep:=fun b=>m.keep b∨m'.ro b,top:=m.top }) (w:=w') (w':=w') (fun id x hx=>?_) (fun _ h=>h) (fun _ _ _=>rfl) hr
    rw [hn id] at hx;cases hx
  · refine ⟨fun b hb=>.inr hb,fun b hb=>?_,hR.dom,fun id B b d lim hi hm=>?_,hR.inj,hR.top⟩
    · rcases hb with hb | hb
      · have:=hR.kl b hb;have:=hle.size;omega
      · exact hk2 b (hk1 b hb)
    · obtain ⟨h0,⟨cur,c1,c2,c3,c4⟩,h5,h6⟩:=hR.blk id B b d lim hi hm
      have hlt:=hR.lt hi hm
      refine ⟨h0,⟨cur,by rw [hsame b hlt];exact c1,c2,c3,fun j c hj=>let ⟨u,u1,u2,u3⟩:=c4 j c hj;⟨u,u1,u2.mono hR.rk hlek,u3⟩⟩,fun ho hk=>?_,fun ho=>hle.ro b (h6 ho)⟩
      rcases hk with hk | hk
      · exact h5 ho hk
      · rcases hfresh b hk with hk | hk
        · exact h5 ho (hR.rk b hk)
        · omega
theorem Xts {o:Oper} {c:Call} {x:Operand} {g:FuncId} {cap args:List PV} {QC:PV→Prop} (hg:o.guard=none) (ho:o.op=.call c) (hc:c.callee=.value x) (hx:E.ev x=some (.fn (.func g) cap))
    (ha:evs E c.args.toList=some args) (h:Iso P g (args++cap) QC) (ht:∀ c ∈ args++cap,Xk c)
    (hd:match o.dst with | some d=>d < n | none=>True)
    (k:∀ p,QC p→wpL P n ops rest Q (match o.dst with | some d=>(d,p)::E | none=>E) H):wpL P n ops (o::rest) Q E H :=
  Xma hg ho hc hx ha (h.AC ht) hd fun p _ ⟨hq,e⟩=>e ▸ k p hq
end
end Go.Th
namespace Go.Th
open Go.RowKit
def Xa6 (o:Oper):List Nat:=o.op.operands.toList.filterMap fun | .tmp t=>some t | _=>none
def XK (o:Oper) (E:Env):Env:=E.only (Xa6 o)
def OpK (P:Program) (o:Oper) (E:Env) (H:Xi) (p:PV) (H':Xi):Prop :=
  ∀ rd m w (a:Act) (K:Act→World→Prop) (Q:Exit→Act→World→Prop),R m H w→(∀ x q,E.ev x=some q→Rep m w q (a.eval x)) →
    (∀ v m' w',Le m w m' w'→R m' H' w'→Rep m' w' p v→K (a.put o.dst v) w')→o.wpIn (fen rd) 0 P a w K Q
section
variable {P:Program} {o:Oper} {E:Env} {H H':Xi} {p:PV}
theorem OpV.K (h:OpV P o E H p):OpK P o E H p H:=fun rd m w a K Q hR hρ k=>by
  obtain ⟨v,hrun,hr⟩:=h m w a.eval hR hρ
  refine Xdu hrun ?_
  exact k v m w (Le.refl m w) hR hr
theorem OpW.K (h:OpW P o E H p H'):OpK P o E H p H':=fun rd m w a K Q hR hρ k=>by
  obtain ⟨v,m',w',hrun,hle,hR',hr⟩:=h m w a.eval hR hρ
  refine Xdu hrun ?_
  first
    | exact ⟨v,rfl,k v m' w' hle hR' hr⟩
    | exact k v m' w' hle hR' hr
theorem OpS.K (h:OpS P o E H H'):OpK P o E H (.v undef) H':=fun rd m w a K Q hR hρ k=>by
  obtain ⟨m',w',hrun,hle,hR'⟩:=h m w a.eval hR hρ
  refine Xo9 hrun ?_
  exact k undef m' w' hle hR' (.v _ rfl)
theorem Iso.K {c:Call} {x:Operand} {g:FuncId} {cap args:List PV} (ho:o.op=.call c) (hc:c.callee=.value x) (hx:E.ev x=some (.fn (.func g) cap))
    (ha:evs E c.args.toList=some args) (h:Iso P g (args++cap) (fun q=>q=p)) (ht:∀ c ∈ args++cap,Xk c):OpK P o E H p H:=fun rd m w a K Q hR hρ k=>by
  obtain ⟨vs,hvs,hrun⟩:=Xgq (P:=P) (m:=m) (w:=w) (ρ:=a.eval) ho hc (hρ x _ hx) h.1
  refine Xgi hrun ?_
  have hargs:Xek m w args (c.args.map a.eval):=by
    obtain ⟨e1,e2⟩:=XcQ (m:=m) (w:=w) (ρ:=a.eval) hρ c.args.toList args ha
    refine ⟨by simp [e1],fun j q hj=>?_⟩
    have:=e2 j q hj
    simpa [Array.getD_eq_getD_getElem?,List.getD_eq_getElem?_getD] using this
  refine ((h.AC (H:=H) ht).2 m w _ hR (hargs.append hvs)).mono ?_
  rintro e w' ⟨v,q,H',m',rfl,⟨rfl,rfl⟩,hr,hR',hle⟩
  first
    | exact ⟨v,rfl,k v m' w' hle hR' hr⟩
    | exact k v m' w' hle hR' hr
theorem AC.K {c:Call} {x:Operand} {g:FuncId} {cap args:List PV} (ho:o.op=.call c) (hc:c.callee=.value x) (hx:E.ev x=some (.fn (.func g) cap))
    (ha:evs E c.args.toList=some args) (h:AC P g (args++cap) H (fun q G=>q=p∧G=H')):OpK P o E H p H':=fun rd m w a K Q hR hρ k=>by
  obtain ⟨vs,hvs,hrun⟩:=Xgq (P:=P) (m:=m) (w:=w) (ρ:=a.eval) ho hc (hρ x _ hx) h.1
  refine Xgi hrun ?_
  have hargs:Xek m w args (c.args.map a.eval):=by
    obtain ⟨e1,e2⟩:=XcQ (m:=m) (w:=w) (ρ:=a.eval) hρ c.args.toList args ha
    refine ⟨by simp [e1],fun j q hj=>?_⟩
    have:=e2 j q hj
    simpa [Array.getD_eq_getD_getElem?,List.getD_eq_getElem?_getD] using this
  refine (h.2 m w _ hR (hargs.append hvs)).mono ?_
  rintro e w' ⟨v,q,G,m',rfl,⟨rfl,rfl⟩,hr,hR',hle⟩
  first
    | exact ⟨v,rfl,k v m' w' hle hR' hr⟩
    | exact k v m' w' hle hR' hr
end
def edgeOn (o:Oper) (j:Nat):Bool:=o.after.toList.any fun e=>Region.binds .any e && Nat.beq e.on j
def Xfe (acc:List Nat) (o:Oper):Nat:=o.after.toList.foldl (fun s e=>if Region.binds .any e then s ||| 2 ^ e.on ||| acc.getD e.on 0 else s) 0
def bef:List Oper→List Nat→List Nat
  | [],acc=>acc
  | o::r,acc=>bef r (acc++[Xfe acc o])
def Xsc (l:List Oper):Bool:=l.zipIdx.all fun (o,i)=>o.after.toList.all fun e=>!Region.binds .any e || Nat.blt e.on i
def Xeo (ops:Array Oper) (listed:Array Bool):Prop:=∀ (i:Nat) (o:Oper),ops[i]?=some o→listed.getD i false=true→∀ e ∈ o.after,Region.binds .any e=true→listed.getD e.on false=true
theorem XcL {acc:List Nat} {o:Oper} {j:Nat} (h:(Xfe acc o).testBit j=true):∃ e ∈ o.after,Region.binds .any e=true∧(e.on=j∨(acc.getD e.on 0).testBit j=true):=by
  have key:∀ (l:List Edge) (s:Nat),(l.foldl (fun s e=>if Region.binds .any e then s ||| 2 ^ e.on ||| acc.getD e.on 0 else s) s).testBit j=true →
      s.testBit j=true∨∃ e ∈ l,Region.binds .any e=true∧(e.on=j∨(acc.getD e.on 0).testBit j=true):=by
    intro l
    induction l with
    | nil=>intro s h;exact .inl h
    | cons e l ih =>
      intro s h
      simp only [List.foldl_cons] at h
      rcases ih _ h with h1 | ⟨e',he',h1⟩
      · by_cases hb:Region.binds .any e=true
        · rw [if_pos hb,Nat.testBit_or,Nat.testBit_or,Nat.testBit_two_pow] at h1
          simp only [Bool.or_eq_true,decide_eq_true_eq] at h1
          rcases h1 with (h1 | h1) | h1
          · exact .inl h1
          · exact .inr ⟨e,by simp,hb,.inl h1⟩
          · exact .inr ⟨e,by simp,hb,.inr h1⟩
        · rw [if_neg hb] at h1;exact .inl h1
      · exact .inr ⟨e',by simp [he'],h1⟩
  rcases key _ _ h with h1 | ⟨e,he,h1⟩
  · simp at h1
  · exact ⟨e,by simpa using he,h1⟩
theorem XbY {ops:Array Oper} {listed:Array Bool} (hc:Xeo ops listed):∀ (l:List Oper) (acc:List Nat),(∀ (k:Nat),l[k]?=ops[acc.length+k]?) →
    (∀ i j,i < acc.length→(acc.getD i 0).testBit j=true→listed.getD i false=true→listed.getD j false=true) →
    ∀ i j,((bef l acc).getD i 0).testBit j=true→listed.getD i false=true→listed.getD j false=true
  | [],acc,_,h,i,j=>fun hb hl=>by
    rcases Nat.lt_or_ge i acc.length with hlt | hge
    · exact h i j hlt hb hl
    · simp only [bef,List.getD_eq_getElem?_getD,List.getElem?_eq_none hge] at hb;simp at hb
  | o::r,acc,hl,h,i,j=>by
    refine XbY hc r (acc++[Xfe acc o]) (fun k=>?_) (fun i j hi hb hli=>?_) i j
    · have:=hl (k+1)
      simpa [Nat.add_assoc,Nat.add_comm 1 k] using this
    · have ho:ops[acc.length]?=some o:=by have:=hl 0;simpa using this.symm
      rcases Nat.lt_or_ge i acc.length with hlt | hge
      · rw [List.getD_eq_getElem?_getD,List.getElem?_append_left hlt,← List.getD_eq_getElem?_getD] at hb
        exact h i j hlt hb hli
      · have e:i=acc.length:=by simp at hi;omega
        subst e
        rw [List.getD_eq_getElem?_getD,List.getElem?_append_right (Nat.le_refl _)] at hb
        simp at hb
        obtain ⟨e,he,hbind,h1⟩:=XcL hb
        have hle:=hc _ o ho hli e he hbind
        rcases h1 with h1 | h1
        · exact h1 ▸ hle
        · rcases Nat.lt_or_ge e.on acc.length with hlt | hge
          · exact h e.on j hlt h1 hle
          · rw [List.getD_eq_getElem?_getD,List.getElem?_eq_none hge] at h1;simp at h1
def Xa4 (bs:List Nat) (j i:Nat):Bool:=(bs.getD i 0).testBit j
def Xq (o:Oper):Bool :=
  match o.op with
  | .store .. | .alloc _ | .box .. | .buildSlice ..=>true
  | .call { callee:=.builtin .append,.. }=>true
  | .call { callee:=.value _,.. }=>Nat.beq o.type 0
  | _=>false
def slotOf (o:Oper):List Nat:=o.dst.toList
def XfN (l:List Oper):Bool :=
  let bs:=bef l []
  Xsc l &&
  (l.zipIdx.all fun (oi,i)=>l.zipIdx.all fun (oj,j)=>Nat.beq i j ||
    ((oi.dst.all fun d=>!(Xa6 oj).contains d || (if i < j then Xa4 bs i j else Xa4 bs j i)) &&
     (oi.dst.all fun d=>oj.dst.all fun d'=>!Nat.beq d d') &&
     (!(Xq oi && Xq oj) || (if i < j then Xa4 bs i j else Xa4 bs j i)))) &&
  (l.zipIdx.all fun (o,i)=>match o.guard with
    | none=>true
    | some (j,_)=>Xa4 bs j i && Nat.blt j i && !Xq o)
def XaF (l:List Oper) (i:Nat):Nat:=(l.zipIdx.filter fun (o,j)=>Xq o && Xa4 (bef l []) j i).length
def XaR (l:List Oper) (i:Nat):Nat:=(l.zipIdx.filter fun (o,j)=>Xq o && !Xa4 (bef l []) i j).length
def X3:List Oper→List PV→Env→Env
  | o::os,p::ps,E=>X3 os ps (match o.dst with | some d=>(d,p)::E | none=>E)
  | _,_,E=>E
theorem Xbk:∀ (l:List Oper) (vals:List PV) (E:Env) (t:Nat) (p:PV),(X3 l vals E).get t=some p →
    (∃ (j:Nat) (o:Oper),j < vals.length∧l[j]?=some o∧o.dst=some t∧vals[j]?=some p)∨(E.get t=some p∧∀ (j:Nat) (o:Oper),j < vals.length→l[j]?=some o→o.dst≠some t)
  | [],vals,E,t,p,h=>.inr ⟨by simpa [X3] using h,fun j o _ hj=>by simp at hj⟩
  | o::os,[],E,t,p,h=>.inr ⟨by simpa [X3] using h,fun j o hj=>by simp at hj⟩
  | o::os,q::ps,E,t,p,h=>by
    simp only [X3] at h
    rcases Xbk os ps _ t p h with ⟨j,o',h1,h2,h3,h4⟩ | ⟨h1,h2⟩
    · exact .inl ⟨j+1,o',by simp;omega,by simpa using h2,h3,by simpa using h4⟩
    · cases hd:o.dst with
      | none =>
        rw [hd] at h1
        refine .inr ⟨h1,fun j o' hj hl=>?_⟩
        cases j with
        | zero=>simp at hl;subst hl;rw [hd];simp
        | succ j=>exact h2 j o' (by simp at hj;omega) (by simpa using hl)
      | some d =>
        rw [hd] at h1
        simp only at h1
        rw [Env.get_cons] at h1
        by_cases e:d=t
        · subst e
          rw [if_pos rfl] at h1;cases h1
          exact .inl ⟨0,o,by simp,rfl,hd,rfl⟩
        · rw [if_neg e] at h1
          refine .inr ⟨h1,fun j o' hj hl=>?_⟩
          cases j with
          | zero=>simp at hl;subst hl;rw [hd];simpa using e
          | succ j=>exact h2 j o' (by simp at hj;omega) (by simpa using hl)
def Xdw (l:List Oper) (i:Nat):Nat:=((l.take i).filter Xq).length
def DF (P:Program) (n:Nat) (l:List Oper) (vals:List PV) (Hs:Nat→Xi) (E0:Env) (i:Nat) (o:Oper) (p:PV):Prop :=
  (∀ d,o.dst=some d→d < n) ∧
  match o.guard with
  | none=>match Xq o with
    | true=>OpK P o (XK o (X3 (l.take i) (vals.take i) E0)) (Hs (Xdw l i)) p (Hs (Xdw l i+1))
    | false=>∀ k,XaF l i≤k→k≤XaR l i→OpK P o (XK o (X3 (l.take i) (vals.take i) E0)) (Hs k) p (Hs k)
  | some (j,want)=>∃ b oj,vals[j]?=some (.v (.bool b))∧l[j]?=some oj∧oj.dst.isSome=true ∧
      (b=want→∀ k,XaF l i≤k→k≤XaR l i→OpK P o (XK o (X3 (l.take i) (vals.take i) E0)) (Hs k) p (Hs k))∧(b≠want→p=.v undef)
section
variable {P:Program} {n:Nat} {l:List Oper}
theorem Xdh {α:Type} (l:List α) (p q:α→Bool) (h:∀ x ∈ l,p x=true→q x=true):l.countP p≤l.countP q:=List.countP_mono_left h
def XaT (l:List Oper) (i:Nat):Bool:=(l[i]?).any Xq
def cnt (l:List Oper) (listed:Array Bool):Nat:=(List.range l.length).countP fun i=>XaT l i && listed.getD i false
theorem Xdf (l:List Oper) (f:Oper→Nat→Bool):∀ (k:Nat),((l.zipIdx k).filter fun (o,j)=>f o j).length=(List.range l.length).countP fun i=>match l[i]? with | some o=>f o (k+i) | none=>false:=by
  induction l with
  | nil=>intro k;rfl
  | cons o l ih =>
    intro k
    rw [List.zipIdx_cons,List.length_cons,List.range_succ_eq_map,List.countP_cons,List.countP_map]
    have h2:=ih (k+1)
    simp only [List.filter_cons]
    have e:((List.range l.length).countP fun i=>match l[i]? with | some o=>f o (k+1+i) | none=>false) =
        (List.range l.length).countP ((fun i=>match (o::l)[i]? with | some o=>f o (k+i) | none=>false) ∘ Nat.succ):=by
      apply List.countP_congr
      intro i _
      simp [Function.comp,Nat.add_assoc,Nat.add_comm 1 i]
    rw [← e,← h2]
    simp only [List.getElem?_cons_zero,Nat.add_zero]
    split <;> simp_all
theorem XfD (i:Nat):XaF l i=(List.range l.length).countP fun j=>XaT l j && Xa4 (bef l []) j i:=by
  unfold XaF
  rw [Xdf l (fun o j=>Xq o && Xa4 (bef l []) j i) 0]
  apply List.countP_congr
  intro j _
  cases h:l[j]? <;> simp [XaT,h]
theorem XfG (i:Nat):XaR l i=(List.range l.length).countP fun j=>XaT l j && !Xa4 (bef l []) i j:=by
  unfold XaR
  rw [Xdf l (fun o j=>Xq o && !Xa4 (bef l []) i j) 0]
  apply List.countP_congr
  intro j _
  cases h:l[j]? <;> simp [XaT,h]
theorem XmB (i:Nat):Xdw l i=(List.range l.length).countP fun j=>XaT l j && decide (j < i):=by
  have h:∀ (l:List Oper) (i:Nat),((l.take i).filter Xq).length=(List.range l.length).countP fun j=>XaT l j && decide (j < i):=by
    intro l
    induction l with
    | nil=>intro i;simp
    | cons o l ih =>
      intro i
      rw [List.length_cons,List.range_succ_eq_map,List.countP_cons,List.countP_map]
      cases i with
      | zero=>simp [List.countP_eq_zero.2]
      | succ i =>
        rw [List.take_succ_cons,List.filter_cons]
        have e:(List.range l.length).countP ((fun j=>XaT (o::l) j && decide (j < i+1)) ∘ Nat.succ)=(List.range l.length).countP fun j=>XaT l j && decide (j < i):=by
          apply List.countP_congr
          intro j _
          simp [Function.comp,XaT]
        rw [e,← ih i]
        have e0:XaT (o::l) 0=Xq o:=by simp [XaT]
        rw [e0]
        cases Xq o <;> simp
  exact h l i
theorem XlS {listed:Array Bool} {i:Nat} (hi:i < l.length) (hs:listed.size=l.length) (hf:listed.getD i false=false) :
    cnt l (listed.setIfInBounds i true)=cnt l listed+if XaT l i then 1 else 0:=by
  unfold cnt
  have hget:∀ j,(listed.setIfInBounds i true).getD j false=(listed.getD j false || decide (j=i)):=fun j=>by
    by_cases e:i=j
    · subst e;simp [Array.getD_eq_getD_getElem?,hs,hi]
    · rw [getD_set_ne false e];simp [Ne.symm e]
  have h:∀ (r:List Nat),r.Nodup→i ∈ r→(r.countP fun j=>XaT l j && (listed.setIfInBounds i true).getD j false)=(r.countP fun j=>XaT l j && listed.getD j false)+if XaT l i then 1 else 0:=by
    intro r
    induction r with
    | nil=>intro _ h;cases h
    | cons x r ih =>
      intro hnd hmem
      rw [List.nodup_cons] at hnd
      rw [List.countP_cons,List.countP_cons]
      by_cases e:x=i
      · subst e
        have hrest:(r.countP fun j=>XaT l j && (listed.setIfInBounds x true).getD j false)=r.countP fun j=>XaT l j && listed.getD j false:=by
          apply List.countP_congr
          intro j hj
          have:j≠x:=fun e=>hnd.1 (e ▸ hj)
          rw [hget];simp [this]
        rw [hrest,hget,hf]
        cases XaT l x <;> simp
      · have hm:i ∈ r:=by
          rcases List.mem_cons.1 hmem with h | h
          · exact absurd h.symm e
          · exact h
        rw [ih hnd.2 hm,hget]
        simp [e]
        omega
  exact h _ List.nodup_range (List.mem_range.2 hi)
end
end Go.Th
namespace Go.Th
open Go.RowKit
theorem XbP {α:Type} {l:List α} {f:α × Nat→Bool} (h:l.zipIdx.all f=true) {i:Nat} {o:α} (hi:l[i]?=some o):f (o,i)=true:=by
  refine List.all_eq_true.1 h (o,i) ?_
  rw [List.mem_zipIdx_iff_getElem?]
  simpa using hi
structure DrawOk (l:List Oper):Prop where
  down:∀ (i:Nat) (o:Oper),l[i]?=some o→∀ e ∈ o.after,Region.binds .any e=true→e.on < i
  slot:∀ (i j:Nat) (oi oj:Oper) (d:Nat),i≠j→l[i]?=some oi→l[j]?=some oj→oi.dst=some d→d ∈ Xa6 oj→(i < j→Xa4 (bef l []) i j=true)∧(j < i→Xa4 (bef l []) j i=true)
  dst:∀ (i j:Nat) (oi oj:Oper) (d:Nat),i≠j→l[i]?=some oi→l[j]?=some oj→oi.dst=some d→oj.dst≠some d
  loud:∀ (i j:Nat) (oi oj:Oper),i < j→l[i]?=some oi→l[j]?=some oj→Xq oi=true→Xq oj=true→Xa4 (bef l []) i j=true
  guard:∀ (i j:Nat) (o:Oper) (w:Bool),l[i]?=some o→o.guard=some (j,w)→Xa4 (bef l []) j i=true∧j < i∧Xq o=false
theorem Xqg {l:List Oper} (h:XfN l=true):DrawOk l:=by
  unfold XfN at h
  simp only [Bool.and_eq_true] at h
  obtain ⟨⟨h1,h2⟩,h3⟩:=h
  have pair:∀ (i j:Nat) (oi oj:Oper),i≠j→l[i]?=some oi→l[j]?=some oj →
      ((oi.dst.all fun d=>!(Xa6 oj).contains d || (if i < j then Xa4 (bef l []) i j else Xa4 (bef l []) j i))=true∧(oi.dst.all fun d=>oj.dst.all fun d'=>!Nat.beq d d')=true ∧
       (!(Xq oi && Xq oj) || (if i < j then Xa4 (bef l []) i j else Xa4 (bef l []) j i))=true):=fun i j oi oj hne hi hj=>by
    have:=XbP (XbP h2 hi) hj
    simp only [Bool.or_eq_true,Bool.and_eq_true] at this
    rcases this with this | this
    · exact absurd (Nat.eq_of_beq_eq_true this) hne
    · simpa [Bool.or_eq_true,Bool.and_eq_true,and_assoc] using this
  refine ⟨fun i o hi e he hb=>?_,fun i j oi oj d hne hi hj hd hm=>?_,fun i j oi oj d hne hi hj hd hd'=>?_,fun i j oi oj hlt hi hj h1 h2=>?_,fun i j o w hi hg=>?_⟩
  · have:=XbP h1 hi
    have:=List.all_eq_true.1 this e (by simpa using he)
    simp only [hb,Bool.not_true,Bool.false_or] at this
    exact Zcj
  · have:=(pair i j oi oj hne hi hj).1
    rw [hd] at this
    simp only [Option.all_some,Bool.or_eq_true,Bool.not_eq_true'] at this
    rcases this with this | this
    · have hc:(Xa6 oj).contains d=true:=by simpa using hm
      rw [hc] at this;cases this
    · exact Zck
  · have:=(pair i j oi oj hne hi hj).2.1
    rw [hd,hd'] at this
    simp at this
  · have:=(pair i j oi oj (by omega) hi hj).2.2
    rw [h1,h2] at this
    simpa [hlt] using this
  · have:=XbP h3 hi
    rw [hg] at this
    simp only [Bool.and_eq_true,Bool.not_eq_true'] at this
    exact Zcl
theorem XaD {listed:Array Bool} {i:Nat} (h:listed.getD i true=false):listed.getD i false=false:=by
  rcases Nat.lt_or_ge i listed.size with h' | h'
  · simp [h'] at h ⊢;exact h
  · simp [Array.getElem?_eq_none h'] at h
theorem Xbf (k j:Nat):(Array.replicate k false).getD j false=false:=by
  rcases Nat.lt_or_ge j k with h | h
  · simp [h]
  · simp [h]
theorem Xiu:∀ (l:List Oper) (acc:List Nat),(∀ (k:Nat) (o:Oper),l[k]?=some o→∀ e ∈ o.after,Region.binds .any e=true→e.on < acc.length+k) →
    (∀ i j,i < acc.length→(acc.getD i 0).testBit j=true→j < i)→∀ i j,((bef l acc).getD i 0).testBit j=true→j < i
  | [],acc,_,h,i,j=>fun hb=>by
    rcases Nat.lt_or_ge i acc.length with hlt | hge
    · exact h i j hlt hb
    · simp only [bef,List.getD_eq_getElem?_getD,List.getElem?_eq_none hge] at hb;simp at hb
  | o::r,acc,hd,h,i,j=>by
    refine Xiu r (acc++[Xfe acc o]) (fun k o' hk e he hb=>?_) (fun i j hi hb=>?_) i j
    · have:=hd (k+1) o' (by simpa using hk) e he hb
      simp;omega
    · rcases Nat.lt_or_ge i acc.length with hlt | hge
      · rw [List.getD_eq_getElem?_getD,List.getElem?_append_left hlt,← List.getD_eq_getElem?_getD] at hb
        exact h i j hlt hb
      · have e:i=acc.length:=by simp at hi;omega
        subst e
        rw [List.getD_eq_getElem?_getD,List.getElem?_append_right (Nat.le_refl _)] at hb
        simp at hb
        obtain ⟨e,he,hbind,h1⟩:=XcL hb
        have h2:=hd 0 o rfl e he hbind
        rcases h1 with h1 | h1
        · omega
        · have:=h e.on j (by simpa using h2) h1
          simp at h2;omega
theorem DrawOk.irr {l:List Oper} (ho:DrawOk l) (i j:Nat) (h:Xa4 (bef l []) j i=true):j < i :=
  Xiu l [] (fun k o hk e he hb=>by have:=ho.down k o hk e he hb;simpa using this) (fun i j hi=>by simp at hi) i j h
section
variable {P:Program} {n:Nat} {l:List Oper} {vals:List PV} {Hs:Nat→Xi} {E0:Env} {m0:Mp} {w0:World} {rd:Option Nat}
structure Inv (n:Nat) (l:List Oper) (vals:List PV) (Hs:Nat→Xi) (E0:Env) (m0:Mp) (w0:World) (listed:Array Bool) (a:Act) (w:World):Prop where
  size:listed.size=l.length
  closed:Xeo l.toArray listed
  tmps:a.tmps.size=n
  rel:∃ m,LeD m0 w0 m w a.defers∧R m (Hs (cnt l listed)) w∧(∀ (j:Nat) (o:Oper) (d:Nat) (p:PV),listed.getD j false=true→l[j]?=some o→o.dst=some d→vals[j]?=some p→Rep m w p (a.tmps.getD d undef)) ∧
    (∀ t p,E0.get t=some p→(∀ (j:Nat) (o:Oper),listed.getD j false=true→l[j]?=some o→o.dst≠some t)→Rep m w p (a.tmps.getD t undef))
theorem XfS (ho:DrawOk l) {listed:Array Bool} (hs:listed.size=l.length) (h:Region.ready .any l.toArray listed=[]):∀ i,i < l.length→listed.getD i false=true:=by
  intro i
  induction i using Nat.strongRecOn with
  | _ i ih =>
    intro hi
    cases hf:listed.getD i false with
    | true=>rfl
    | false =>
      exfalso
      have hmem:i ∈ Region.ready .any l.toArray listed:=by
        rw [mem_ready]
        refine ⟨?_,l[i],by simp [hi],fun e he hb=>?_⟩
        · rw [Array.getD_eq_getD_getElem?,Array.getElem?_eq_getElem (by omega)] at hf ⊢
          simpa using hf
        · have:=ho.down i l[i] (by simp [hi]) e he hb
          exact ih e.on this (by omega)
      rw [h] at hmem;cases hmem
theorem Env.only_self (E:Env) (ts:List Nat) (t:Nat) (p:PV) (h:(E.only ts).get t=some p):t ∈ ts:=by
  induction ts with
  | nil=>simp [Env.only,Env.get] at h
  | cons x r ih =>
    simp only [Env.only] at h
    split at h
    · rw [Env.get_cons] at h
      by_cases e:x=t
      · simp [e]
      · rw [if_neg e] at h;simp [ih h]
    · simp [ih h]
theorem XiY (ho:DrawOk l) (hv:vals.length=l.length) (hf:∀ (i:Nat) (o:Oper) (p:PV),l[i]?=some o→vals[i]?=some p→DF P n l vals Hs E0 i o p) {Q:Exit→Act→World→Prop} {K:Act→World→Prop}
    {listed:Array Bool} {a:Act} {w:World} (hI:Inv n l vals Hs E0 m0 w0 listed a w) {i:Nat} (hi:i ∈ Region.ready .any l.toArray listed)
    (hK:∀ a' w',Inv n l vals Hs E0 m0 w0 (listed.setIfInBounds i true) a' w'→K a' w'):wpOpIn (fen rd) 0 P l.toArray Q i K a w:=by
  obtain ⟨hiu,o,hio,hdeps⟩:=mem_ready.1 hi
  have hil:l[i]?=some o:=by simpa using hio
  have hlt:i < l.length:=(List.getElem?_eq_some_iff.1 hil).1
  obtain ⟨p,hp⟩:∃ p,vals[i]?=some p:=⟨_,List.getElem?_eq_getElem (by omega)⟩
  have hif:listed.getD i false=false:=XaD hiu
  obtain ⟨m,hle,hR,hr1,hr2⟩:=hI.rel
  have hlen:=hI.size
  have hL':∀ j,(listed.setIfInBounds i true).getD j false=true↔(listed.getD j false=true∨j=i):=fun j=>by
    by_cases e:i=j
    · subst e;simp [Array.getD_eq_getD_getElem?,hlen,hlt]
    · rw [getD_set_ne false e];simp [Ne.symm e]
  have hclosed':Xeo l.toArray (listed.setIfInBounds i true):=fun k ok hk hkl e he hb=>by
    rw [hL'] at hkl ⊢
    rcases hkl with hkl | rfl
    · exact ZbJ
    · rw [hio] at hk;cases hk
      exact .inl (hdeps e he hb)
  have hbefi:∀ j,Xa4 (bef l []) j i=true→j≠i→listed.getD j false=true:=fun j hb hne=>by
    have:=XbY hclosed' l [] (fun k=>by simp) (fun i j hi=>by simp at hi) i j hb ((hL' i).2 (.inr rfl))
    rcases (hL' j).1 this with h | h
    · exact h
    · exact absurd h hne
  have hbefo:∀ j,Xa4 (bef l []) i j=true→listed.getD j false=false:=fun j hb=>by
    cases hj:listed.getD j false with
    | false=>rfl
    | true =>
      have:=XbY hI.closed l [] (fun k=>by simp) (fun i j hi=>by simp at hi) j i hb hj
      rw [hif] at this;cases this
  have hEi:∀ t q,(XK o (X3 (l.take i) (vals.take i) E0)).get t=some q→Rep m w q (a.tmps.getD t undef):=fun t q ht=>by
    have hts:t ∈ Xa6 o:=Env.only_self _ _ t q ht
    have ht':=Env.only_get _ _ t q ht
    rcases Xbk _ _ _ t q ht' with ⟨j,oj,h1,h2,h3,h4⟩ | ⟨h1,h2⟩
    · have hji:j < i:=by simp at h1;omega
      rw [List.getElem?_take,if_pos hji] at h2 h4
      have:=(ho.slot j i oj o t (by omega) h2 hil h3 hts).1 hji
      exact ZbK
    · refine hr2 t q h1 fun j oj hj hjl hd=>?_
      rcases Nat.lt_or_ge j i with hlt2 | hge
      · exact h2 j oj (by simp;omega) (by rw [List.getElem?_take,if_pos hlt2];exact hjl) hd
      · have hne:j≠i:=fun e=>by rw [e] at hj;rw [hif] at hj;cases hj
        have:=(ho.slot j i oj o t hne hjl hil hd hts).2 (by omega)
        rw [hbefo j this] at hj;cases hj
  have hev:∀ x q,(XK o (X3 (l.take i) (vals.take i) E0)).ev x=some q→Rep m w q (a.eval x):=fun x q hx=>FR.ev (a:=a) hEi hx
  have hdf:=hf i o p hil hp
  have fin:∀ (v:Value) (m':Mp) (w':World),Le m w m' w'→R m' (Hs (cnt l (listed.setIfInBounds i true))) w'→Rep m' w' p v→K (a.put o.dst v) w':=fun v m' w' hle' hR' hrep=>by
    refine hK _ _ ⟨by simp [hlen],hclosed',by cases o.dst <;> simp [Act.put,hI.tmps],m',(hle.trans hle').put,hR',fun j oj d q hj hjl hd hq=>?_,fun t q ht hno=>?_⟩
    · rcases (hL' j).1 hj with hj | rfl
      · have hne:i≠j:=fun e=>by rw [← e,hif] at hj;cases hj
        have hrj:=(hr1 j oj d q hj hjl hd hq).mono hR.rk hle'
        cases hdo:o.dst with
        | none=>simpa [Act.put,hdo] using hrj
        | some d' =>
          have hdd:d'≠d:=fun e=>ho.dst i j o oj d hne hil hjl (by rw [hdo,e]) hd
          simpa [Act.put,hdo,Array.getD_eq_getD_getElem?,Array.getElem?_setIfInBounds_ne hdd] using hrj
      · rw [hil] at hjl;cases hjl
        rw [hp] at hq;cases hq
        have hdn:d < a.tmps.size:=by rw [hI.tmps];exact hdf.1 d hd
        simpa [Act.put,hd,Array.getD_eq_getD_getElem?,hdn] using hrep
    · have hdt:o.dst≠some t:=hno i o ((hL' i).2 (.inr rfl)) hil
      have hrt:=(hr2 t q ht (fun j oj hj hjl=>hno j oj ((hL' j).2 (.inl hj)) hjl)).mono hR.rk hle'
      cases hdo:o.dst with
      | none=>simpa [Act.put,hdo] using hrt
      | some d' =>
        have hdd:d'≠t:=fun e=>hdt (by rw [hdo,e])
        simpa [Act.put,hdo,Array.getD_eq_getD_getElem?,Array.getElem?_setIfInBounds_ne hdd] using hrt
  have hla:XaT l i=Xq o:=by simp [XaT,hil]
  have hcnt:=XlS (l:=l) hlt hlen hif
  rw [hla] at hcnt
  have hlo:XaF l i≤cnt l listed:=by
    rw [XfD]
    refine Xdh _ _ _ fun j hj hb=>?_
    simp only [Bool.and_eq_true] at hb ⊢
    exact ZbL
  have hhi:cnt l listed≤XaR l i:=by
    rw [XfG]
    refine Xdh _ _ _ fun j hj hb=>?_
    simp only [Bool.and_eq_true,Bool.not_eq_true'] at hb ⊢
    refine ⟨hb.1,?_⟩
    cases hbb:Xa4 (bef l []) i j with
    | false=>rfl
    | true=>rw [hbefo j hbb] at hb;cases hb.2
  unfold wpOpIn
  simp only [hio]
  cases hg:o.guard with
  | none =>
    have hw:Region.wanted o (yielded l.toArray a.tmps)=true:=by simp [Region.wanted,hg]
    rw [if_pos hw]
    have h2:=hdf.2
    rw [hg] at h2
    simp only at h2
    cases hlo':Xq o with
    | true =>
      rw [hlo'] at h2 hcnt
      simp only at h2
      have hn:cnt l listed=Xdw l i:=by
        rw [XmB]
        apply List.countP_congr
        intro j hj
        have hjl:j < l.length:=List.mem_range.1 hj
        have hjo:l[j]?=some l[j]:=List.getElem?_eq_getElem hjl
        cases hla2:XaT l j with
        | false=>simp
        | true =>
          have hlj:Xq l[j]=true:=by simpa [XaT,hjo] using hla2
          simp only [Bool.true_and,decide_eq_true_eq]
          constructor
          · intro hlj2
            rcases Nat.lt_trichotomy j i with h | h | h
            · exact h
            · rw [h,hif] at hlj2;cases hlj2
            · have:=hbefo j (ho.loud i j o l[j] h hil hjo hlo' hlj)
              rw [this] at hlj2;cases hlj2
          · intro h
            exact hbefi j (ho.loud j i l[j] o h hjo hil hlj hlo') (by omega)
      refine h2 rd m w a _ _ (by rw [← hn];exact hR) hev fun v m' w' h3 h4 h5=>fin v m' w' h3 ?_ h5
      rw [hcnt,hn];simpa using h4
    | false =>
      rw [hlo'] at h2 hcnt
      simp only at h2
      refine h2 _ hlo hhi rd m w a _ _ hR hev fun v m' w' h3 h4 h5=>fin v m' w' h3 ?_ h5
      rw [hcnt];simpa using h4
  | some jw =>
    obtain ⟨j,want⟩:=jw
    have h2:=hdf.2
    rw [hg] at h2
    simp only at h2
    obtain ⟨b,oj,hvj,hjl,hjd,h3,h4⟩:=h2
    obtain ⟨g1,g2,g3⟩:=ho.guard i j o want hil hg
    have hlj:=hbefi j g1 (by omega)
    obtain ⟨dj,hdj⟩:=Option.isSome_iff_exists.1 hjd
    have hrj:=hr1 j oj dj _ hlj hjl hdj hvj
    have he:a.tmps.getD dj undef=.bool b:=XJ hrj
    have hdn:dj < a.tmps.size:=by
      rcases Nat.lt_or_ge dj a.tmps.size with h | h
      · exact h
      · rw [Array.getD_eq_getD_getElem?,Array.getElem?_eq_none h] at he;simp [undef] at he
    have hy:yielded l.toArray a.tmps j=some b:=by
      have:a.tmps[dj]?=some (.bool b):=by
        rw [Array.getD_eq_getD_getElem?,Array.getElem?_eq_getElem hdn] at he
        rw [Array.getElem?_eq_getElem hdn]
        simpa using he
      simp [yielded,hjl,hdj,this]
    rw [g3] at hcnt
    by_cases e:b=want
    · have hw:Region.wanted o (yielded l.toArray a.tmps)=true:=by simp [Region.wanted,hg,hy,e]
      rw [if_pos hw]
      refine h3 e _ hlo hhi rd m w a _ _ hR hev fun v m' w' h5 h6 h7=>fin v m' w' h5 ?_ h7
      rw [hcnt];simpa using h6
    · have hw:Region.wanted o (yielded l.toArray a.tmps)=false:=by simp [Region.wanted,hg,hy,e]
      rw [hw,if_neg (by simp)]
      have hpu:=h4 e
      subst hpu
      refine ⟨fun f _=>Xb6 rd f,fin undef m w (Le.refl m w) ?_ (.v _ rfl)⟩
      rw [hcnt];simpa using hR
theorem XgR (ho:DrawOk l) (hv:vals.length=l.length) (hf:∀ (i:Nat) (o:Oper) (p:PV),l[i]?=some o→vals[i]?=some p→DF P n l vals Hs E0 i o p) {Q:Exit→Act→World→Prop}
    (hQ:∀ listed a w,Inv n l vals Hs E0 m0 w0 listed a w→(∀ i,i < l.length→listed.getD i false=true)→Q .normal a w) :
    ∀ (fuel:Nat) (listed:Array Bool) (a:Act) (w:World),Inv n l vals Hs E0 m0 w0 listed a w→((List.range l.length).countP fun i=>!listed.getD i false)≤fuel→wpAnyIn (fen rd) 0 P .any l.toArray Q fuel listed a w
  | 0,listed,a,w,hI,hc=>by
    have hall:∀ i,i < l.length→listed.getD i false=true:=fun i hi=>by
      have:=List.countP_eq_zero.1 (Nat.le_zero.1 hc) i (List.mem_range.2 hi)
      simpa using this
    refine ⟨?_,hQ listed a w hI hall⟩
    cases hr:Region.ready .any l.toArray listed with
    | nil=>rfl
    | cons i r =>
      have hm:i ∈ Region.ready .any l.toArray listed:=by rw [hr];simp
      obtain ⟨h1,o,h2,_⟩:=mem_ready.1 hm
      have hlt:i < l.length:=by simpa using (Array.getElem?_eq_some_iff.1 h2).1
      have:=hall i hlt
      rw [XaD h1] at this;cases this
  | fuel+1,listed,a,w,hI,hc=>by
    refine ⟨fun hr=>hQ listed a w hI (XfS ho hI.size hr),fun i hi=>?_⟩
    refine XiY ho hv hf hI hi fun a' w' hI'=>XgR ho hv hf hQ fuel _ a' w' hI' ?_
    obtain ⟨h1,o,h2,_⟩:=mem_ready.1 hi
    have hlt:i < l.length:=by simpa using (Array.getElem?_eq_some_iff.1 h2).1
    have hif:=XaD h1
    have hlen:=hI.size
    have hget:∀ j,(listed.setIfInBounds i true).getD j false=(listed.getD j false || decide (j=i)):=fun j=>by
      by_cases e:i=j
      · subst e;simp [Array.getD_eq_getD_getElem?,hlen,hlt]
      · rw [getD_set_ne false e];simp [Ne.symm e]
    have key:∀ (r:List Nat),r.Nodup→i ∈ r→(r.countP fun j=>!(listed.setIfInBounds i true).getD j false)+1=r.countP fun j=>!listed.getD j false:=by
      intro r
      induction r with
      | nil=>intro _ h;cases h
      | cons x r ih =>
        intro hnd hmem
        rw [List.nodup_cons] at hnd
        rw [List.countP_cons,List.countP_cons]
        by_cases e:x=i
        · subst e
          have hrest:(r.countP fun j=>!(listed.setIfInBounds x true).getD j false)=r.countP fun j=>!listed.getD j false:=by
            apply List.countP_congr
            intro j hj
            have:j≠x:=fun e=>hnd.1 (e ▸ hj)
            rw [hget];simp [this]
          rw [hrest,hget,hif]
          simp
        · have hm:i ∈ r:=by
            rcases List.mem_cons.1 hmem with h | h
            · exact absurd h.symm e
            · exact h
          have:=ih hnd.2 hm
          have e2:(!(listed.getD x false || decide (x=i)))=!listed.getD x false:=by simp [e]
          rw [hget,e2]
          omega
    have:=key _ List.nodup_range (List.mem_range.2 hlt)
    omega
theorem XqV {Q:QA} {id:Nat} (hm:P.follows .mixedOrders=true) (hB:XfN l=true) (hv:vals.length=l.length) (hf:∀ (i:Nat) (o:Oper) (p:PV),l[i]?=some o→vals[i]?=some p→DF P n l vals Hs E0 i o p)
    (k:Q .normal (X3 l vals E0) (Hs (Xdw l l.length))):wpA P n (.region id l.toArray true) Q E0 (Hs 0):=by
  rintro rd m1 w1 a w ⟨h1,h2,m,h3,h4,h5⟩
  have ho:=Xqg hB
  have h4':=h4.drew
  refine wpIn_region_any hm ?_
  have hcnt0:cnt l (Array.replicate l.length false)=0:=by
    unfold cnt
    rw [List.countP_eq_zero]
    intro i _
    rw [Xbf]
    simp
  refine XgR (Hs:=Hs) (E0:=E0) (m0:=m1) (w0:=w1) ho hv hf (fun listed a' w' hI hall=>?_) _ _ a w.drew ⟨by simp,fun i o hi hl=>?_,h1,m,h3.trans h4'.2,by simpa [hcnt0] using h4'.1,fun j o d p hl=>?_,fun t p ht _=>(h5 t p ht).mono h4.rk h4'.2⟩ ?_
  · obtain ⟨m',g1,g2,g3,g4⟩:=hI.rel
    refine ⟨_,_,k,hI.tmps,h2,m',g1,?_,fun t p ht=>?_⟩
    · have:cnt l listed=Xdw l l.length:=by
        rw [XmB]
        apply List.countP_congr
        intro j hj
        have hjl:=List.mem_range.1 hj
        simp [hall j hjl,hjl]
      rw [← this];exact g2
    · rcases Xbk l vals E0 t p ht with ⟨j,oj,e1,e2,e3,e4⟩ | ⟨e1,e2⟩
      · exact g3 j oj t p (hall j (by omega)) e2 e3 e4
      · exact g4 t p e1 fun j oj _ hjl=>e2 j oj (by have:=(List.getElem?_eq_some_iff.1 hjl).1;omega) hjl
  · rw [Xbf] at hl;cases hl
  · rw [Xbf] at hl;cases hl
  · simp only [List.size_toArray]
    refine ZbM ?_
    simp
end
end Go.Th
namespace Go.Th
open Go.RowKit
theorem HasI.mk_of {P:Program} {t:TypeId} {size bytes:Nat} {zv:Value} {z:List Value} (h:(P.info? t).map (fun i=>(i.zero,i.size,i.bytes))=some (some zv,size,bytes)) (hz:zv.cells.toList=z):HasI P t size bytes z:=by
  obtain ⟨i,h1,h2,h3,h4⟩:=info_parts h
  exact ⟨i,zv,h1,h3,h4,h2,hz⟩
section
variable {P:Program} {n:Nat} {Q:QA} {E:Env} {H:Xi} {ops:Array Oper} {rest:List Oper}
theorem XiD {K:Env→Xi→Prop} (h:K E H):wpL P n ops [] (XeC K Q) E H:=Xoo h
theorem Xxg {c:Operand} {x y:Code} (hc:E.ev c=some (.v (.bool false))) (h1:wpA P n y Q E H):wpA P n (.cond c x y) Q E H :=
  XiF hc (fun h=>by cases h) (fun _=>h1)
theorem Xor {c:Code} (t:Nat) (e:TypeId) (sz:Nat) (ht:E.get t=some (.v (.slice none 0 0))) (h:wpA P n c Q ((t,.sl H.length 0 0 sz)::E) (H++[some ⟨[],e,true⟩])):wpA P n c Q E H:=by
  rintro rd m0 w0 a w ⟨h1,h2,m,h3,h4,h5⟩
  refine h rd m0 w0 a w ⟨h1,h2,m,h3,h4.ghost _,fun t' p ht'=>?_⟩
  rw [Env.get_cons] at ht'
  by_cases e':t=t'
  · subst e'
    rw [if_pos rfl] at ht';cases ht'
    rw [XJ (h5 t _ ht)]
    exact .sl0 none
  · rw [if_neg e'] at ht'
    exact h5 t' p ht'
theorem XA8 {o:Oper} {d:Nat} {p:PV} {H':Xi} (hg:o.guard=none) (hd:o.dst=some d) (hn:d < n) (h:OpK P o E H p H') (k:wpL P n ops rest Q ((d,p)::E) H'):wpL P n ops (o::rest) Q E H:=by
  rintro rd m0 w0 a w ⟨h1,h2,m,h3,h4,h5⟩
  refine wpListIn_plain hg fun K hK=>?_
  refine h rd m w a K _ h4 (fun x q hx=>h5.ev hx) fun v m' w' hle hR hr=>?_
  rw [hd]
  exact Zdi
end
def Xto (P:Program) (n:Nat) (l:List Oper) (vals:List PV) (Hs:Nat→Xi):Nat→List Oper→List PV→Env→Prop
  | i,o::os,p::ps,E =>
    ((∀ d,o.dst=some d→d < n) ∧
      match o.guard with
      | none=>match Xq o with
        | true=>OpK P o (XK o E) (Hs (Xdw l i)) p (Hs (Xdw l i+1))
        | false=>∀ k,XaF l i≤k→k≤XaR l i→OpK P o (XK o E) (Hs k) p (Hs k)
      | some (j,want)=>∃ b oj,vals[j]?=some (.v (.bool b))∧l[j]?=some oj∧oj.dst.isSome=true ∧
          (b=want→∀ k,XaF l i≤k→k≤XaR l i→OpK P o (XK o E) (Hs k) p (Hs k))∧(b≠want→p=.v undef)) ∧
    Xto P n l vals Hs (i+1) os ps (match o.dst with | some d=>(d,p)::E | none=>E)
  | _,[],[],_=>True
  | _,_,_,_=>False
theorem XbL:∀ (l:List Oper) (vals:List PV) (o:Oper) (p:PV) (E:Env),l.length=vals.length→X3 (l++[o]) (vals++[p]) E=(match o.dst with | some d=>(d,p)::X3 l vals E | none=>X3 l vals E)
  | [],[],o,p,E,_=>by cases h:o.dst <;> simp [X3,h]
  | [],_::_,_,_,_,h=>by simp at h
  | _::_,[],_,_,_,h=>by simp at h
  | x::l,y::vals,o,p,E,h=>by
    simp only [List.cons_append,X3]
    exact XbL l vals o p _ (by simpa using h)
theorem Xto.facts {P:Program} {n:Nat} {l:List Oper} {vals:List PV} {Hs:Nat→Xi} {E0:Env} (hl:vals.length=l.length):∀ (i:Nat) (os:List Oper) (ps:List PV),l.drop i=os→vals.drop i=ps →
    Xto P n l vals Hs i os ps (X3 (l.take i) (vals.take i) E0)→∀ (j:Nat) (o:Oper) (p:PV),i≤j→l[j]?=some o→vals[j]?=some p→DF P n l vals Hs E0 j o p
  | i,[],ps,h1,_,_,j,o,p,hij,hj,_=>by
    have h2:=congrArg List.length h1
    simp at h2
    have:=(List.getElem?_eq_some_iff.1 hj).1
    omega
  | i,o'::os,[],h1,h2,h,j,o,p,hij,hj,hp=>by simp [Xto] at h
  | i,o'::os,p'::ps,h1,h2,h,j,o,p,hij,hj,hp=>by
    obtain ⟨ha,hb⟩:=h
    have e1:l[i]?=some o':=by have:=congrArg (·[0]?) h1;simpa using this
    have e2:vals[i]?=some p':=by have:=congrArg (·[0]?) h2;simpa using this
    by_cases e:i=j
    · subst e
      rw [e1] at hj;cases hj
      rw [e2] at hp;cases hp
      exact ha
    · have hi:i < l.length:=(List.getElem?_eq_some_iff.1 e1).1
      have t1:l.take (i+1)=l.take i++[o']:=by
        rw [List.take_add_one,e1];rfl
      have t2:vals.take (i+1)=vals.take i++[p']:=by
        rw [List.take_add_one,e2];rfl
      refine Xto.facts hl (i+1) os ps ?_ ?_ ?_ j o p (by omega) hj hp
      · have:=congrArg List.tail h1;simpa using this
      · have:=congrArg List.tail h2;simpa using this
      · rw [t1,t2,XbL _ _ _ _ _ (by simp;omega)]
        exact hb
theorem Xou {P:Program} {n:Nat} {l:List Oper} {Hs:Nat→Xi} {E0:Env} {Q:QA} {id:Nat} (vals:List PV) (hm:P.follows .mixedOrders=true) (hB:XfN l=true) (hv:vals.length=l.length)
    (h:Xto P n l vals Hs 0 l vals E0) (k:Q .normal (X3 l vals E0) (Hs (Xdw l l.length))):wpA P n (.region id l.toArray true) Q E0 (Hs 0) :=
  XqV hm hB hv (fun i o p hi hp=>Xto.facts hv 0 l vals rfl rfl (by simpa [X3] using h) i o p (Nat.zero_le _) hi hp) k
def DX (P:Program) (n:Nat) (l:List Oper) (Hs:Nat→Xi):Nat→List Oper→List PV→Env→(Env→Prop)→Prop
  | _,[],_,E,K=>K E
  | i,o::os,acc,E,K=>∃ p,((∀ d,o.dst=some d→d < n) ∧
      match o.guard with
      | none=>match Xq o with
        | true=>OpK P o (XK o E) (Hs (Xdw l i)) p (Hs (Xdw l i+1))
        | false=>∀ k,XaF l i≤k→k≤XaR l i→OpK P o (XK o E) (Hs k) p (Hs k)
      | some (j,want)=>∃ b oj,acc[j]?=some (.v (.bool b))∧l[j]?=some oj∧oj.dst.isSome=true ∧
          (b=want→∀ k,XaF l i≤k→k≤XaR l i→OpK P o (XK o E) (Hs k) p (Hs k))∧(b≠want→p=.v undef)) ∧
    DX P n l Hs (i+1) os (acc++[p]) (match o.dst with | some d=>(d,p)::E | none=>E) K
theorem DX.all {P:Program} {n:Nat} {l:List Oper} {Hs:Nat→Xi} {K:Env→Prop}:∀ (os:List Oper) (i:Nat) (acc:List PV) (E:Env),DX P n l Hs i os acc E K →
    ∃ ps,ps.length=os.length∧Xto P n l (acc++ps) Hs i os ps E∧K (X3 os ps E)
  | [],i,acc,E,h=>⟨[],rfl,trivial,h⟩
  | o::os,i,acc,E,⟨p,⟨h1,h2⟩,h3⟩=>by
    obtain ⟨ps,hl,hd,hk⟩:=DX.all os (i+1) (acc++[p]) _ h3
    refine ⟨p::ps,by simp [hl],⟨⟨h1,?_⟩,?_⟩,hk⟩
    · cases hg:o.guard with
      | none=>rw [hg] at h2;exact h2
      | some jw =>
        rw [hg] at h2
        obtain ⟨b,oj,e1,e2⟩:=h2
        refine ⟨b,oj,?_,e2⟩
        rw [List.getElem?_append_left (List.getElem?_eq_some_iff.1 e1).1]
        exact e1
    · rw [List.append_assoc] at hd
      exact hd
theorem XsO {P:Program} {n:Nat} {l:List Oper} {Hs:Nat→Xi} {E0:Env} {Q:QA} {id:Nat} (hm:P.follows .mixedOrders=true) (hB:XfN l=true)
    (h:DX P n l Hs 0 l [] E0 (fun E=>Q .normal E (Hs (Xdw l l.length)))):wpA P n (.region id l.toArray true) Q E0 (Hs 0):=by
  obtain ⟨ps,hl,hd,hk⟩:=DX.all l 0 [] E0 h
  exact Xou ps hm hB hl hd hk
theorem Xxh {P:Program} {n:Nat} {l:List Oper} {H:Xi} {E0:Env} {Q:QA} {id:Nat} (hm:P.follows .mixedOrders=true) (hB:XfN l=true)
    (h:DX P n l (fun _=>H) 0 l [] E0 (fun E=>Q .normal E H)):wpA P n (.region id l.toArray true) Q E0 H :=
  XsO (Hs:=fun _=>H) hm hB h
section
variable {P:Program} {n:Nat} {l:List Oper} {acc:List PV} {Hs:Nat→Xi} {i:Nat} {o:Oper} {os:List Oper} {p:PV} {E:Env} {d:Nat} {K:Env→Prop}
end
section
variable {P:Program} {fn:Func} {Q:PV→Prop} {QH:PV→Xi→Prop} {E:Env} {H:Xi}
theorem Xle {e:Exit} (hr:fn.results=#[]) (he:e=.normal∨e=.ret) (hq:Q (.tup [])):Xlf P fn Q e E H :=
  ⟨he,[],.tup [],by rw [hr];trivial,.refl _,Xk.tup Xs,hq⟩
theorem XI {t:Tmp} {p q:PV} (hr:fn.results=#[.tmp t]) (h1:E.get t=some p) (hc:Conv H p q) (ht:Xk q) (hq:Q q):Xlf P fn Q .ret E H :=
  ⟨.inr rfl,[p],q,by rw [hr];exact ⟨h1,trivial⟩,hc,ht,hq⟩
theorem XgF {t u:Tmp} {p q p' q':PV} (hr:fn.results=#[.tmp t,.tmp u]) (h1:E.get t=some p) (h2:E.get u=some q) (hc:Conv H p p') (hc2:Conv H q q') (ht:Xk p') (ht2:Xk q') (hq:Q (.tup [p',q'])):Xlf P fn Q .ret E H :=
  ⟨.inr rfl,[p,q],.tup [p',q'],by rw [hr];exact ⟨h1,h2,trivial⟩,.tup rfl (fun j c d hj hd=>by
    match j with
    | 0=>simp at hj hd;subst hj;subst hd;exact hc
    | 1=>simp at hj hd;subst hj;subst hd;exact hc2
    | j+2=>simp at hj),Xk.tup (Xa ht (Xa ht2 Xs)),hq⟩
theorem Xo7 {t u v:Tmp} {p q r p' q' r':PV} (hr:fn.results=#[.tmp t,.tmp u,.tmp v]) (h1:E.get t=some p) (h2:E.get u=some q) (h3:E.get v=some r) (hc:Conv H p p') (hc2:Conv H q q') (hc3:Conv H r r') (ht:Xk p') (ht2:Xk q') (ht3:Xk r') (hq:Q (.tup [p',q',r'])):Xlf P fn Q .ret E H :=
  ⟨.inr rfl,[p,q,r],.tup [p',q',r'],by rw [hr];exact ⟨h1,h2,h3,trivial⟩,.tup rfl (fun j c d hj hd=>by
    match j with
    | 0=>simp at hj hd;subst hj;subst hd;exact hc
    | 1=>simp at hj hd;subst hj;subst hd;exact hc2
    | 2=>simp at hj hd;subst hj;subst hd;exact hc3
    | j+3=>simp at hj),Xk.tup (Xa ht (Xa ht2 (Xa ht3 Xs))),hq⟩
theorem XcK {a:Tmp} {ty:TypeId} {d:TypeDesc} {size bytes:Nat} {z:List Value} {p q r:PV} [hu:HasU P ty d] [hi:HasI P ty size bytes z] (hr:fn.results=#[.cell a ty]) (h1:E.get a=some r) (hl:XdQ d size H r=some p) (hc:Conv H p q) (ht:Xk q) (hq:Q q):Xlf P fn Q .ret E H :=
  ⟨.inr rfl,[p],q,by rw [hr];exact ⟨Xhv h1 hl,trivial⟩,hc,ht,hq⟩
theorem XiO {a u:Tmp} {ty:TypeId} {d:TypeDesc} {size bytes:Nat} {z:List Value} {p q p' q' r:PV} [hu:HasU P ty d] [hi:HasI P ty size bytes z] (hr:fn.results=#[.cell a ty,.tmp u]) (h1:E.get a=some r) (hl:XdQ d size H r=some p) (h2:E.get u=some q)
    (hc:Conv H p p') (hc2:Conv H q q') (ht:Xk p') (ht2:Xk q') (hq:Q (.tup [p',q'])):Xlf P fn Q .ret E H :=
  ⟨.inr rfl,[p,q],.tup [p',q'],by rw [hr];exact ⟨Xhv h1 hl,h2,trivial⟩,.tup rfl (fun j c d hj hd=>by
    match j with
    | 0=>simp at hj hd;subst hj;subst hd;exact hc
    | 1=>simp at hj hd;subst hj;subst hd;exact hc2
    | j+2=>simp at hj),Xk.tup (Xa ht (Xa ht2 Xs)),hq⟩
theorem Xbr {e:Exit} (hr:fn.results=#[]) (he:e=.normal∨e=.ret) (hq:QH (.tup []) H):Xry P fn QH e E H :=
  ⟨he,[],by rw [hr];trivial,hq⟩
theorem XC {t:Tmp} {p:PV} (hr:fn.results=#[.tmp t]) (h1:E.get t=some p) (hq:QH p H):Xry P fn QH .ret E H :=
  ⟨.inr rfl,[p],by rw [hr];exact ⟨h1,trivial⟩,hq⟩
end
section
variable {P:Program} {E:Env} {H:Xi} {o:Oper} {t e:TypeId} {sz bytes:Nat} {z:List Value}
theorem Xc [hu:HasU P t (.slice e)] [hi:HasI P e sz bytes z] {x y:Operand} {k:IntKind} {i:Int} {cells ec:List PV} {len:Nat} (ho:o.op=.indexAddr t x y) (hx:E.ev x=some (.tr cells len sz)) (hy:E.ev y=some (.v (.int k i)))
    (h:0≤i∧i < len) (hc:Xav sz (cells.drop (i.toNat * sz))=some ec):OpV P o E H (.ept ec 0):=fun m w ρ hR hρ=>by
  obtain ⟨v,hrun,hr⟩:=Xbp (P:=P) (H:=H) ho hx hy rfl rfl h m w ρ hR hρ
  refine ⟨v,hrun,?_⟩
  obtain ⟨h1,rfl⟩:=(Xao _ _ _).1 hc
  cases hr with
  | @ept _ _ b o' f a1 a2 a3 =>
    refine .ept (b:=b) (o:=o'+i.toNat * sz) (off:=0) (fun j=>f (i.toNat * sz+j)) a1 (fun j c hj=>?_) (fun j c hj=>?_)
    · rw [List.getElem?_take] at hj
      split at hj
      · rw [List.getElem?_drop] at hj
        rw [Nat.add_assoc];exact a2 _ c hj
      · cases hj
    · rw [List.getElem?_take] at hj
      split at hj
      · rw [List.getElem?_drop] at hj
        exact a3 _ c hj
      · cases hj
theorem Xp {α:Type} {enc:α→List PV} {sz:Nat} (henc:∀ x,(enc x).length=sz):∀ (l:List α) (i:Nat) (x:α),l[i]?=some x→Xav sz ((l.flatMap enc).drop (i * sz))=some (enc x)
  | [],i,x,h=>by simp at h
  | a::l,0,x,h=>by
    simp at h;subst h
    rw [Xao]
    simp [List.flatMap_cons,henc]
  | a::l,i+1,x,h=>by
    rw [List.flatMap_cons,show (i+1) * sz=(enc a).length+i * sz from by rw [henc,Nat.add_mul];omega,List.drop_append]
    rw [List.drop_eq_nil_of_le (by omega),List.nil_append,Nat.add_sub_cancel_left]
    exact Xp henc l i x (by simpa using h)
theorem XgW {α:Type} {enc:α→List PV} {sz:Nat} (henc:∀ x,(enc x).length=sz):∀ (l:List α),(l.flatMap enc).length=l.length * sz
  | []=>by simp
  | a::l=>by rw [List.flatMap_cons,List.length_append,henc,XgW henc l,List.length_cons,Nat.add_mul];omega
end
end Go.Th
namespace Go.Th
open Go.RowKit
section
variable {P:Program} {n:Nat} {Q:QA} {E:Env} {H:Xi} {ops:Array Oper} {rest:List Oper} {K:Env→Xi→Prop} {i id:Nat}
theorem XbB (h:Q (.exit i) E H):XeC K Q (.exit i) E H:=h
theorem XhR (h:Q .ret E H):XeC K Q .ret E H:=h
theorem XiA (h:K E H):XeC K Q .normal E H:=h
theorem Xgu (h:Q .ret E H):Xdz id Q .ret E H:=h
theorem XhA (h:Q .normal E H):Xdz id Q .normal E H:=h
theorem Xbh (h:Q .normal E H):Xdz id Q (.exit id) E H:=by
  simp only [Xdz,if_true];exact h
theorem XjH {c:Operand} {x y:Code} {t:Bool} (hc:E.ev c=some (.v (.bool t))) (ht:t=true) (h:wpA P n x Q E H):wpA P n (.cond c x y) Q E H :=
  XiF hc (fun _=>h) (fun e=>by rw [ht] at e;cases e)
theorem Xmg {c:Operand} {x y:Code} {t:Bool} (hc:E.ev c=some (.v (.bool t))) (ht:t=false) (h:wpA P n y Q E H):wpA P n (.cond c x y) Q E H :=
  XiF hc (fun e=>by rw [ht] at e;cases e) (fun _=>h)
theorem Xl9 {o og:Oper} {j dj d:Nat} {want b:Bool} (hg:o.guard=some (j,want)) (hj:ops[j]?=some og) (hdj:og.dst=some dj) (hb:E.get dj=some (.v (.bool b))) (hd:o.dst=some d) (hn:d < n) (e:b=want)
    (h1:wpL P n ops ({ o with guard:=none }::rest) Q E H):wpL P n ops (o::rest) Q E H:=Xtt hg hj hdj hb hd hn (fun _=>h1) (fun e'=>absurd e e')
theorem Xop {o og:Oper} {j dj d:Nat} {want b:Bool} (hg:o.guard=some (j,want)) (hj:ops[j]?=some og) (hdj:og.dst=some dj) (hb:E.get dj=some (.v (.bool b))) (hd:o.dst=some d) (hn:d < n) (e:b=!want)
    (h1:wpL P n ops rest Q ((d,.v undef)::E) H):wpL P n ops (o::rest) Q E H:=Xtt hg hj hdj hb hd hn (fun e'=>by rw [e'] at e;cases want <;> cases e) (fun _=>h1)
theorem At.freeze {rd:Option Nat} {m0:Mp} {w0:World} {a:Act} {w:World} {t id off len sz:Nat} {B:Blk} {cs:List PV} (h:At rd m0 w0 n E H a w) (ht:E.get t=some (.sl id off len sz)) (hB:H[id]?=some (some B)) (hc:Xav (len * sz) (B.cells.drop off)=some cs) :
    At rd m0 w0 n ((t,.tr cs len sz)::E) (H.set id none) a w:=by
  obtain ⟨h1,h2,m,h3,h4,h5⟩:=h
  obtain ⟨t1,rfl⟩:=(Xao _ _ _).1 hc
  have hcl:((B.cells.drop off).take (len * sz)).length=len * sz:=by simp only [List.length_take];omega
  have hr:=h5 t _ ht
  generalize hv:a.tmps.getD t undef=v at hr
  cases hr with
  | @sl _ _ _ _ b lim cap hm a1 a2 a3 =>
    obtain ⟨hd0,⟨cur,c1,c2,c3,c4⟩,hk1,hk2⟩:=h4.blk id B b 0 lim hB hm
    have hle:Le m w { blk:=m.blk,ro:=fun k=>m.ro k∨k=b,keep:=fun k=>m.keep k∨k=b,top:=m.top } w :=
      ⟨fun _ _ h=>h,fun _ h=>.inl h,fun _ h=>.inl h,fun _ _=>rfl,Nat.le_refl _,rfl,rfl,rfl,fun k hk=>by
        rcases hk with hk | rfl
        · exact .inl hk
        · cases ho:B.own with
          | true=>exact .inr (hk1 ho)
          | false=>exact .inl (hk2 ho),rfl,fun _ _=>rfl⟩
    have hR:R { blk:=m.blk,ro:=fun k=>m.ro k∨k=b,keep:=fun k=>m.keep k∨k=b,top:=m.top } (H.set id none) w:=by
      refine ⟨fun k hk=>?_,fun k hk=>?_,fun i x hx=>by simpa using h4.dom i x hx,fun i C bi di li hi hmi=>?_,fun i j C D bi di li bj dj lj hne hi hj=>?_,by simpa using h4.top⟩
      · rcases hk with hk | hk
        · exact .inl (h4.rk k hk)
        · exact .inr hk
      · rcases hk with hk | rfl
        · exact h4.kl k hk
        · exact h4.lt hB hm
      · rcases XQ hi with ⟨_,e⟩ | ⟨n1,e⟩
        · cases e
        · obtain ⟨g0,⟨cur',g1,g2,g3,g4⟩,g5,g6⟩:=h4.blk i C bi di li e hmi
          refine ⟨g0,⟨cur',g1,g2,g3,fun j c hj=>let ⟨u,u1,u2,u3⟩:=g4 j c hj;⟨u,u1,u2.mono h4.rk hle,u3⟩⟩,fun hoC hk=>?_,fun hoC=>.inl (g6 hoC)⟩
          rcases hk with hk | rfl
          · exact g5 hoC hk
          · cases ho:B.own with
            | true=>exact h4.inj i id C B _ _ _ _ _ _ n1 e hB hoC ho hmi hm rfl
            | false=>exact g5 hoC (h4.rk _ (hk2 ho))
      · rcases XQ hi with ⟨_,e⟩ | ⟨n1,ei⟩
        · cases e
        · rcases XQ hj with ⟨_,e⟩ | ⟨n2,ej⟩
          · cases e
          · exact h4.inj i j C D bi di li bj dj lj hne ei ej
    refine ⟨h1,h2,_,h3.trans hle,hR,fun t' p ht'=>?_⟩
    rw [Env.get_cons] at ht'
    by_cases e:t=t'
    · subst e
      rw [if_pos rfl] at ht';cases ht'
      rw [hv]
      refine .tr (b:=b) (o:=0+off) (fun j=>cur.getD (0+off+j) undef) (.inr rfl) hcl a1 a2 (fun j q hj=>?_) (fun j q hj=>?_)
      all_goals
        have hlt:j < ((B.cells.drop off).take (len * sz)).length:=(List.getElem?_eq_some_iff.1 hj).1
        have hj2:=hj
        rw [List.getElem?_take,if_pos (by omega),List.getElem?_drop] at hj2
        obtain ⟨u,u1,u2,_⟩:=c4 _ _ hj2
        have u1':cur[0+off+j]?=some u:=by rw [Nat.add_assoc];exact u1
        have hg:cur.getD (0+off+j) undef=u:=by rw [Array.getD_eq_getD_getElem?,u1'];rfl
      · rw [cell_of_row w b _ cur B.elem.tid (0,0) c1,u1',hg]
      · simp only [hg]
        exact u2.mono h4.rk hle
    · rw [if_neg e] at ht'
      exact (h5 t' p ht').mono h4.rk hle
  | sl0 ad =>
    refine ⟨h1,h2,m,h3,h4.kill id,fun t' p ht'=>?_⟩
    rw [Env.get_cons] at ht'
    by_cases e:t=t'
    · subst e
      rw [if_pos rfl] at ht';cases ht'
      rw [hv]
      have:(B.cells.drop off).take (0 * sz)=[]:=by simp
      rw [this]
      cases ad with
      | some ad=>exact .tr0 ad (by simp [maxLen])
      | none=>exact .trn
    · rw [if_neg e] at ht'
      exact h5 t' p ht'
end
def XeG (sz:Nat) (p:PV) (l h:Nat):Option PV :=
  match p with
  | .sl id off _ sz'=>match Nat.beq sz' sz with
    | true=>some (.sl id (off+l * sz) (h - l) sz)
    | false=>none
  | .tr cells _ sz'=>match Nat.beq sz' sz with
    | true=>some (.tr ((cells.drop (l * sz)).take ((h - l) * sz)) (h - l) sz)
    | false=>none
  | _=>none
def optInt (E:Env) (dflt:Nat):Option Operand→Option Nat
  | none=>some dflt
  | some x=>match E.ev x with
    | some (.v (.int _ i))=>match i with
      | .ofNat k=>some k
      | .negSucc _=>none
    | _=>none
section
variable {P:Program} {E:Env} {H:Xi} {o:Oper} {t e:TypeId} {sz bytes:Nat} {z:List Value}
theorem XV {P:Program} {w:World} (k:IntKind) (i y:Nat) (c:BoundsCode) (h:i≤y):(Instr.sliceBound (.int k (i:Int)) y c).run P w=.ok i w:=by
  have h1:(0:Int)≤(i:Int)∧(i:Int)≤(y:Int):=⟨by omega,by omega⟩
  simp [Instr.sliceBound,asIntOf,h1]
theorem Xqz [hu:HasU P t (.slice e)] [hi:HasI P e sz bytes z] {x:Operand} {lo hi':Option Operand} {p q:PV} {len l h:Nat} {kl kh:IntKind} (ho:o.op=.slice t x lo hi' none) (hx:E.ev x=some p) (hlen:Xb2 p=some len)
    (hlo:match lo with | none=>l=0 | some y=>E.ev y=some (.v (.int kl (l:Int)))) (hhi:match hi' with | none=>h=len | some y=>E.ev y=some (.v (.int kh (h:Int)))) (hlh:l≤h∧h≤len)
    (hq:XeG sz p l h=some q):OpV P o E H q:=fun m w ρ hR hρ=>by
  obtain ⟨inf,zv,h3,h4,_⟩:=hi.i
  subst h4
  have hp:=hρ x p hx
  have key:∀ (a:Option Addr) (c:Nat),len≤c→ρ x=.slice a len c→(execOp ρ o).run P w=.ok (.value (.slice (if c=l then a else a.map (·.add (l * inf.size))) (h - l) (c - l))) w:=fun a c hc hv=>by
    have hs:∀ f:Value→Sem Nat,True:=fun _=>trivial
    have hb:(Instr.sliceBounds true len c (lo.map ρ) (hi'.map ρ) none).run P w=.ok (l,h,c) w:=by
      unfold Instr.sliceBounds
      cases lo with
      | none =>
        simp only at hlo
        subst hlo
        cases hi' with
        | none=>simp only at hhi;subst hhi;simp
        | some y =>
          simp only at hhi
          have:=XJ (hρ y _ hhi)
          simp [this,XV kh h c _ (by omega)]
      | some y =>
        simp only at hlo
        have h1:=XJ (hρ y _ hlo)
        cases hi' with
        | none=>simp only at hhi;subst hhi;simp [h1,XV kl l h _ (by omega)]
        | some y' =>
          simp only at hhi
          have h2:=XJ (hρ y' _ hhi)
          simp [h1,h2,XV kl l h _ (by omega),XV kh h c _ (by omega)]
    simp only [execOp,ho,Option.map_none,Instr.sliceAt,Sem.run_bind,run_underlying hu.u,Result.andThen_ok,hv,Instr.slice,hb,Xap h3,Sem.run_pure]
  generalize hv:ρ x=v at hp
  cases hp with
  | @sl id off len' sz' b lim cap hm a1 a2 a3 =>
    simp only [Xb2] at hlen;cases hlen
    simp only [XeG] at hq
    split at hq
    · rename_i hb
      have hb:=Nat.eq_of_beq_eq_true hb
      subst hb
      cases hq
      refine ⟨_,key _ _ a1 hv,?_⟩
      by_cases hc:cap=l
      · rw [if_pos hc]
        have:h - l=0:=by omega
        rw [this,show cap - l=0 by omega]
        exact .sl0 _
      · rw [if_neg hc]
        simp only [Option.map_some,Addr.add_mk]
        rw [Nat.add_assoc]
        refine .sl (lim:=lim) hm (by omega) (by omega) ?_
        have:l * inf.size+(cap - l) * inf.size=cap * inf.size:=by rw [← Nat.add_mul];congr 1;omega
        omega
    · cases hq
  | sl0 a =>
    simp only [Xb2] at hlen;cases hlen
    simp only [XeG] at hq
    split at hq
    · cases hq
      have hl0:l=0:=by omega
      have hh0:h=0:=by omega
      subst hl0;subst hh0
      refine ⟨_,key _ _ (Nat.le_refl _) hv,?_⟩
      simp only [if_true,Nat.sub_zero]
      exact .sl0 _
    · cases hq
  | @tr cells len' sz' b oo cap f hr hl a1 a2 hc hh =>
    simp only [Xb2] at hlen;cases hlen
    simp only [XeG] at hq
    split at hq
    · rename_i hb
      have hb:=Nat.eq_of_beq_eq_true hb
      subst hb
      cases hq
      refine ⟨_,key _ _ a1 hv,?_⟩
      by_cases hcl:cap=l
      · rw [if_pos hcl]
        have:h - l=0:=by omega
        rw [this,show cap - l=0 by omega]
        simp only [Nat.zero_mul,List.take_zero]
        exact .tr0 _ (by simp [maxLen])
      · rw [if_neg hcl]
        simp only [Option.map_some,Addr.add_mk]
        have hm:l * inf.size+(h - l) * inf.size=h * inf.size:=by rw [← Nat.add_mul];congr 1;omega
        have hm2:h * inf.size≤len * inf.size:=Nat.mul_le_mul_right _ hlh.2
        refine .tr (b:=b) (o:=oo+l * inf.size) (fun j=>f (l * inf.size+j)) hr ?_ (by omega) (by omega) (fun j q hj=>?_) (fun j q hj=>?_)
        · simp only [List.length_take,List.length_drop,hl];omega
        · rw [List.getElem?_take] at hj
          split at hj
          · rw [List.getElem?_drop] at hj
            rw [Nat.add_assoc];exact hc _ q hj
          · cases hj
        · rw [List.getElem?_take] at hj
          split at hj
          · rw [List.getElem?_drop] at hj
            exact hh _ q hj
          · cases hj
    · cases hq
  | tr0 a a2 =>
    simp only [Xb2] at hlen;cases hlen
    simp only [XeG] at hq
    split at hq
    · cases hq
      have hl0:l=0:=by omega
      have hh0:h=0:=by omega
      subst hl0;subst hh0
      refine ⟨_,key _ _ (by omega) hv,?_⟩
      simp only [Nat.sub_zero,List.drop_nil,List.take_nil]
      split
      · exact .tr0 _ a2
      · exact .tr0 _ a2
    · cases hq
  | trn =>
    simp only [Xb2] at hlen;cases hlen
    simp only [XeG] at hq
    split at hq
    · cases hq
      have hl0:l=0:=by omega
      have hh0:h=0:=by omega
      subst hl0;subst hh0
      refine ⟨_,key _ _ (by omega) hv,?_⟩
      simp only [if_true,Nat.sub_zero,List.drop_nil,List.take_nil]
      exact .trn
    · cases hq
  | _=>simp [XeG] at hq
end
end Go.Th
namespace Go.Th
open Go.RowKit
def Sub (E' E:Env):Prop:=∀ t p,E'.get t=some p→E.get t=some p
theorem Sub.nil (E:Env):Sub [] E:=fun t p h=>by simp [Env.get] at h
theorem Sub.cons {E' E:Env} {t:Nat} {p:PV} (h:E.get t=some p) (k:Sub E' E):Sub ((t,p)::E') E:=fun t' q hq=>by
  rw [Env.get_cons] at hq
  by_cases e:t=t'
  · subst e;rw [if_pos rfl] at hq;cases hq;exact h
  · rw [if_neg e] at hq;exact k t' q hq
section
variable {P:Program} {n:Nat} {Q:QA} {E:Env} {H:Xi} {ops:Array Oper} {rest:List Oper}
theorem XkZ {c:Code} (E':Env) (hs:Sub E' E) (h:wpA P n c Q E' H):wpA P n c Q E H:=Xeq hs h
theorem Xg {S:Type} {c:Code} (En:S→Env) (Hp:S→Xi→Prop) (μ:S→Nat) (s0:S) (hE:Sub (En s0) E) (hH:Hp s0 H)
    (round:∀ s G,Hp s G→wpA P n c (XeC (fun E' G'=>∃ s',μ s' < μ s∧Sub (En s') E'∧Hp s' G') Q) (En s) G):wpA P n (.loop c) Q E H:=by
  refine XqU (fun k E G=>∃ s,μ s=k∧Sub (En s) E∧Hp s G) (k:=μ s0) ⟨s0,rfl,hE,hH⟩ ?_
  rintro k E1 G ⟨s,rfl,hs,hg⟩
  refine Xeq hs (Xme (round s G hg) ?_)
  intro e E2 G2 hq
  cases e with
  | normal =>
    obtain ⟨s',h1,h2,h3⟩:=hq
    exact ⟨μ s',h1,s',rfl,h2,h3⟩
  | exit id=>exact hq
  | goto l=>exact hq
  | ret=>exact hq
  | panic c=>exact hq
  | outgrown=>exact hq
theorem XbQ {x y:Code} {S:Type} (En:S→Env) (Hp:S→Xi→Prop) (h:wpA P n x (XeC (fun E' H'=>∃ s,Sub (En s) E'∧Hp s H') Q) E H) (k:∀ s H',Hp s H'→wpA P n y Q (En s) H'):wpA P n (.seq x y) Q E H :=
  Xk0 (fun E' H'=>∃ s,Sub (En s) E'∧Hp s H') h fun _ H' ⟨s,h1,h2⟩=>Xeq h1 (k s H' h2)
end
def XwZ (H H':Xi):Prop:=H.length≤H'.length∧∀ i,i < H.length→H'[i]?=H[i]?
theorem XwZ.app (H t:Xi):XwZ H (H++t):=⟨by simp,fun i hi=>List.getElem?_append_left hi⟩
theorem XwZ.get {H H':Xi} (h:XwZ H H') {i:Nat} {b:Option Blk} (hi:H[i]?=some b):H'[i]?=some b:=by
  have:=(List.getElem?_eq_some_iff.1 hi).1
  rw [h.2 i this];exact hi
theorem XpF {H:Xi} {t:Xi} {i:Nat} {b:Option Blk} (h:H[i]?=some b):(H++t)[i]?=some b:=(XwZ.app H t).get h
theorem XpE (H:Xi) (b:Option Blk):(H++[b])[H.length]?=some b:=by simp
theorem get_set {H:Xi} {i:Nat} {b c:Option Blk} (h:H[i]?=some b):(H.set i c)[i]?=some c:=by
  have:=(List.getElem?_eq_some_iff.1 h).1
  simp [this]
theorem get_set_ne {H:Xi} {i j:Nat} {b c:Option Blk} (h:H[i]?=some b) (hne:j≠i):(H.set j c)[i]?=some b:=by
  rw [List.getElem?_set_ne hne];exact h
theorem Xpk {H:Xi} {i:Nat} {b:Option Blk} (h:H[i]?=some b):i < H.length:=(List.getElem?_eq_some_iff.1 h).1
def XgM (d:TypeDesc) (size:Nat) (cells:List PV) (off:Nat):Option PV :=
  match Xd4 d with
  | true=>match Xav size (cells.drop off) with
    | some cs=>some (.agg cs)
    | none=>none
  | false=>match Xav 1 (cells.drop off) with
    | some [c]=>some c
    | _=>none
section
variable {P:Program} {E:Env} {H:Xi} {o:Oper} {t:TypeId} {d:TypeDesc} {size bytes:Nat} {z:List Value} {id off:Nat} {B:Blk}
theorem Xj [hu:HasU P t d] [hi:HasI P t size bytes z] {x:Operand} {q:PV} (ho:o.op=.load t x) (hx:E.ev x=some (.ptr id off)) (hB:H[id]?=some (some B)) (hl:XgM d size B.cells off=some q):OpV P o E H q :=
  Xa7 ho hx (by
    have e:XdQ d size H (.ptr id off)=XgM d size B.cells off:=by simp only [XdQ,Xdt,hB];rfl
    rw [e];exact hl)
theorem XH [hi:HasI P t size bytes z] {x y:Operand} {q:PV} {cs:List PV} (ho:o.op=.store t x y) (hx:E.ev x=some (.ptr id off)) (hy:E.ev y=some q) (hB:H[id]?=some (some B)) (hsz:Nat.beq (cellsOf q).length size=true) (h1:(cellsOf q).all XZ=true)
    (hown:B.own=true) (hle:Nat.ble (off+(cellsOf q).length) B.cells.length=true) (hcs:Xaz B.cells off (cellsOf q)=cs):OpS P o E H (H.set id (some { B with cells:=cs })) :=
  Xhx ho hx hy hsz h1 (by simp only [XdL,hB,hown,hle,Bool.and_self,hcs])
theorem XiJ {sz len:Nat} {cs:List PV} (hB:H[id]?=some (some B)) (hc:Xav (len * sz) (B.cells.drop off)=some cs):Xu H sz (.sl id off len sz)=some (len,cs):=by
  simp [Xu,hB,hc]
theorem Xdi {e sz len k:Nat} {xs:List PV} (hB:H[id]?=some (some B)) (hown:B.own=true) (he:Nat.beq B.elem.tid e=true) (hl:Nat.beq B.cells.length (len * sz)=true) :
    Xx H e sz (.sl id 0 len sz) k xs=some (len+k,.sl H.length 0 (len+k) sz,H.set id none++[some ⟨B.cells++xs,e,true⟩]):=by
  simp [Xx,hB,hown,he,hl]
end
def hsL (L:List Xi) (k:Nat):Xi:=L.getD k []
theorem Xxi {P:Program} {n:Nat} {l:List Oper} {E0:Env} {Q:QA} {id:Nat} {G:Xi} (L:List Xi) (G':Xi) {N:Nat} (hm:P.follows .mixedOrders=true) (hB:XfN l=true) (hN:Xdw l l.length=N) (hG:hsL (G::L) N=G')
    (h:DX P n l (hsL (G::L)) 0 l [] E0 (fun E=>Q .normal E G')):wpA P n (.region id l.toArray true) Q E0 G:=by
  subst hN
  subst hG
  exact XsO (Hs:=hsL (G::L)) hm hB h
end Go.Th
namespace Go.Th
open Go.RowKit
section
variable {P:Program} {n:Nat} {Q:QA} {E:Env} {H:Xi} {o:Oper} {t:TypeId} {size bytes:Nat} {z:List Value} {B:Blk}
variable {l:List Oper} {acc:List PV} {Hs:Nat→Xi} {i:Nat} {os:List Oper} {p:PV} {d:Nat} {K:Env→Prop}
end
section
variable {P:Program} {n:Nat} {Q:QA} {E:Env} {H:Xi} {ops:Array Oper} {rest:List Oper}
theorem X5 {o:Oper} {c:Call} {x:Operand} {g:FuncId} {cap args:List PV} {QC:PV→Xi→Prop} {d:Nat} (hg:o.guard=none) (ho:o.op=.call c) (hc:c.callee=.value x) (hx:E.ev x=some (.fn (.func g) cap))
    (ha:evs E c.args.toList=some args) (hdd:o.dst=some d) (hd:d < n) (h:AC P g (args++cap) H QC)
    (k:∀ p H',QC p H'→wpL P n ops rest Q ((d,p)::E) H'):wpL P n ops (o::rest) Q E H :=
  Xma hg ho hc hx ha h (by rw [hdd];exact hd) fun p H' hq=>by rw [hdd];exact k p H' hq
theorem Xr {o:Oper} {c:Call} {x:Operand} {g:FuncId} {cap args:List PV} {QC:PV→Prop} {d:Nat} (hg:o.guard=none) (ho:o.op=.call c) (hc:c.callee=.value x) (hx:E.ev x=some (.fn (.func g) cap))
    (ha:evs E c.args.toList=some args) (hdd:o.dst=some d) (hd:d < n) (h:Iso P g (args++cap) QC) (ht:∀ c ∈ args++cap,Xk c)
    (k:∀ p,QC p→wpL P n ops rest Q ((d,p)::E) H):wpL P n ops (o::rest) Q E H :=
  Xts hg ho hc hx ha h ht (by rw [hdd];exact hd) fun p hq=>by rw [hdd];exact k p hq
end
theorem Xcx {P:Program} {n:Nat} {Q Q2:QA} {E:Env} {H:Xi} {x y:Code} {S:Type} (En:S→Env) (Hp:S→Xi→Prop) (h:wpA P n x (XeC (fun E' H'=>∃ s,Sub (En s) E'∧Hp s H') Q2) E H) (k:∀ s H',Hp s H'→wpA P n y Q (En s) H'):wpA P n x (XeC (wpA P n y Q) Q2) E H:=by
  refine Xme h ?_
  intro e E2 G2 hq
  cases e with
  | normal =>
    obtain ⟨s,h1,h2⟩:=hq
    exact Xeq h1 (k s _ h2)
  | exit id=>exact hq
  | goto l=>exact hq
  | ret=>exact hq
  | panic c=>exact hq
  | outgrown=>exact hq
theorem TreeL.nil:∀ c ∈ ([]:List PV),Xk c:=fun c h=>by simp at h
theorem TreeL.cons {p:PV} {l:List PV} (h:Xk p) (k:∀ c ∈ l,Xk c):∀ c ∈ p::l,Xk c:=fun c hc=>by
  rcases List.mem_cons.1 hc with rfl | hc
  · exact h
  · exact k c hc
end Go.Th
namespace Go.Th
open Go.RowKit
structure Has (H:Xi) (L:List (Nat × Blk)):Prop where
  get:∀ (k id:Nat) (B:Blk),L[k]?=some (id,B)→H[id]?=some (some B)
  ne:∀ (i j:Nat) (x y:Nat × Blk),i≠j→L[i]?=some x→L[j]?=some y→x.1≠y.1
section
variable {H G:Xi} {L:List (Nat × Blk)} {k id:Nat} {B B':Blk}
theorem Has.nil (H:Xi):Has H []:=⟨fun k id B h=>by simp at h,fun i j x y _ h=>by simp at h⟩
theorem Has.lt (h:Has H L) (hk:L[k]?=some (id,B)):id < H.length:=Xpk (h.get k id B hk)
theorem Has.ext (h:Has H L) (hx:XwZ H G):Has G L:=⟨fun k id B hk=>hx.get (h.get k id B hk),h.ne⟩
theorem Has.app (h:Has H L) (t:Xi):Has (H++t) L:=h.ext (XwZ.app H t)
theorem Has.cons (h:Has G L) (hx:Has H L) (hid:G[id]?=some (some B)) (hge:H.length≤id):Has G ((id,B)::L):=by
  refine ⟨fun k i C hk=>?_,fun i j x y hne hi hj=>?_⟩
  · cases k with
    | zero=>simp at hk;obtain ⟨rfl,rfl⟩:=hk;exact hid
    | succ k=>exact h.get k i C (by simpa using hk)
  · have hl:∀ (k:Nat) (x:Nat × Blk),L[k]?=some x→x.1 < H.length:=fun k x hk=>hx.lt (k:=k) (id:=x.1) (B:=x.2) hk
    cases i with
    | zero =>
      cases j with
      | zero=>exact absurd rfl hne
      | succ j =>
        simp at hi hj;subst hi
        have:=hl j y hj
        simp only;omega
    | succ i =>
      cases j with
      | zero =>
        simp at hi hj;subst hj
        have:=hl i x hi
        simp only;omega
      | succ j=>exact h.ne i j x y (by omega) (by simpa using hi) (by simpa using hj)
theorem Has.new (h:Has H L) (b:Blk):Has (H++[some b]) ((H.length,b)::L):=(h.app _).cons h (XpE H (some b)) (Nat.le_refl _)
theorem Has.tail {x:Nat × Blk} (h:Has H (x::L)):Has H L:=⟨fun k id B hk=>h.get (k+1) id B (by simpa using hk),fun i j x y hne hi hj=>h.ne (i+1) (j+1) x y (by omega) (by simpa using hi) (by simpa using hj)⟩
theorem XeV {α:Type} {l:List α} {k j:Nat} {a b:α} (h:(l.set k a)[j]?=some b):(j=k∧b=a)∨(j≠k∧l[j]?=some b):=by
  rw [List.getElem?_set] at h
  by_cases e:k=j
  · subst e
    rw [if_pos rfl] at h
    split at h
    · cases h;exact .inl ⟨rfl,rfl⟩
    · cases h
  · rw [if_neg e] at h;exact .inr ⟨fun e'=>e e'.symm,h⟩
theorem Has.set (h:Has H L) (hk:L[k]?=some (id,B)) (B':Blk):Has (H.set id (some B')) (L.set k (id,B')):=by
  refine ⟨fun j i C hj=>?_,fun i j x y hne hi hj=>?_⟩
  · rcases XeV hj with ⟨rfl,e⟩ | ⟨hne,hj⟩
    · cases e;exact get_set (h.get _ _ _ hk)
    · exact get_set_ne (h.get j i C hj) (h.ne k j _ _ (fun e=>hne e.symm) hk hj)
  · rcases XeV hi with ⟨rfl,rfl⟩ | ⟨_,hi2⟩ <;> rcases XeV hj with ⟨rfl,rfl⟩ | ⟨_,hj2⟩
    · exact absurd rfl hne
    · exact h.ne _ j (id,B) _ hne hk hj2
    · exact h.ne i _ _ (id,B) hne hi2 hk
    · exact h.ne i j _ _ hne hi2 hj2
theorem Has.grow (h:Has H L) (hk:L[k]?=some (id,B)) (B':Blk):Has (H.set id none++[some B']) (L.set k (H.length,B')):=by
  have hl:∀ (k:Nat) (x:Nat × Blk),L[k]?=some x→x.1 < H.length:=fun k x hk=>h.lt (k:=k) (id:=x.1) (B:=x.2) hk
  refine ⟨fun j i C hj=>?_,fun i j x y hne hi hj=>?_⟩
  · rcases XeV hj with ⟨rfl,e⟩ | ⟨hne,hj⟩
    · cases e
      have:=XpE (H.set id none) (some B')
      rw [List.length_set] at this
      exact this
    · exact XpF (get_set_ne (h.get j i C hj) (h.ne k j _ _ (fun e=>hne e.symm) hk hj))
  · rcases XeV hi with ⟨rfl,rfl⟩ | ⟨_,hi2⟩ <;> rcases XeV hj with ⟨rfl,rfl⟩ | ⟨_,hj2⟩
    · exact absurd rfl hne
    · have:=hl _ _ hj2;simp only;omega
    · have:=hl _ _ hi2;simp only;omega
    · exact h.ne i j _ _ hne hi2 hj2
end
section
variable {P:Program} {n:Nat} {Q:QA} {E:Env} {H:Xi} {ops:Array Oper} {rest:List Oper} {o:Oper} {t e:TypeId} {d size bytes sz:Nat} {z:List Value} {L:List (Nat × Blk)} {k id off:Nat} {B:Blk} {td:TypeDesc}
theorem Xbu [hu:HasU P t td] [hi:HasI P t size bytes z] {x:Operand} {q:PV} (k:Nat) (hG:Has H L) (hg:o.guard=none) (hd:o.dst=some d) (hn:d < n) (ho:o.op=.load t x) (hx:E.ev x=some (.ptr id off)) (hk:L[k]?=some (id,B)) (hl:XgM td size B.cells off=some q)
    (h:wpL P n ops rest Q ((d,q)::E) H):wpL P n ops (o::rest) Q E H:=Xn hg hd hn (Xj ho hx (hG.get k id B hk) hl) h
theorem Xna [hi:HasI P t size bytes z] (hG:Has H L) (hg:o.guard=none) (hd:o.dst=some d) (hn:d < n) (ho:o.op=.alloc t) (hz:z.all (fun x=>x.oneCell')=true)
    (h:∀ id G,Has G ((id,⟨z.map PV.v,t,true⟩)::L)→wpL P n ops rest Q ((d,.ptr id 0)::E) G):wpL P n ops (o::rest) Q E H :=
  Xfs hg hd hn (Xfo ho hz) (h _ _ (hG.new _))
theorem Xmb {x:Operand} {p:PV} (hG:Has H L) (hg:o.guard=none) (hd:o.dst=some d) (hn:d < n) (ho:o.op=.box t x) (hx:E.ev x=some p) (h1:(cellsOf p).all XZ=true)
    (h:∀ id G,Has G ((id,⟨cellsOf p,t,true⟩)::L)→wpL P n ops rest Q ((d,.ptr id 0)::E) G):wpL P n ops (o::rest) Q E H :=
  Xfs hg hd hn (Xjx ho hx h1) (h _ _ (hG.new _))
theorem Xm8 [hu:HasU P t (.slice e)] [hi:HasI P e sz bytes z] {m:Nat} {parts:Array (Nat × Operand)} {ps:List (Nat × PV)} {cs:List PV} (hG:Has H L) (hg:o.guard=none) (hd:o.dst=some d) (hn:d < n) (ho:o.op=.buildSlice t m parts) (hp:evp E parts.toList=some ps) (hz:z.all (fun x=>x.oneCell')=true)
    (hzl:Nat.beq z.length sz=true) (hpos:Nat.ble 1 sz=true) (hm:Nat.ble (m * sz) 16777216=true) (hc:Xcn (fun i=>some (i * sz,sz)) ((List.range (m * sz)).map fun j=>.v (z.getD (j % z.length) undef)) ps=some cs) (h1:cs.all XZ=true)
    (h:∀ id G,Has G ((id,⟨cs,e,true⟩)::L)→wpL P n ops rest Q ((d,.sl id 0 m sz)::E) G):wpL P n ops (o::rest) Q E H :=
  Xfs hg hd hn (XaB ho hp hz hzl hpos hm hc h1) (h _ _ (hG.new _))
theorem Xb7 [hi:HasI P t size bytes z] {x y:Operand} {q:PV} {cs:List PV} (k:Nat) (hG:Has H L) (hg:o.guard=none) (hd:o.dst=none) (ho:o.op=.store t x y) (hx:E.ev x=some (.ptr id off)) (hy:E.ev y=some q) (hk:L[k]?=some (id,B)) (hsz:Nat.beq (cellsOf q).length size=true) (h1:(cellsOf q).all XZ=true)
    (hown:B.own=true) (hle:Nat.ble (off+(cellsOf q).length) B.cells.length=true) (hcs:Xaz B.cells off (cellsOf q)=cs)
    (h:∀ G,Has G (L.set k (id,{ B with cells:=cs }))→wpL P n ops rest Q E G):wpL P n ops (o::rest) Q E H :=
  Xon hg hd (XH ho hx hy (hG.get k id B hk) hsz h1 hown hle hcs) (h _ (hG.set hk _))
theorem Xau [hu:HasU P t (.slice e)] [hi:HasI P e sz bytes z] {x y:Operand} {q:PV} {m len:Nat} {xs:List PV} (k:Nat) (hG:Has H L) (hg:o.guard=none) (hd:o.dst=some d) (hn:d < n) (ho:o.op=.call { callee:=.builtin .append,args:=#[x,y],argTypes:=#[t,t] })
    (hx:E.ev x=some (.sl id 0 len sz)) (hy:E.ev y=some q) (hk:L[k]?=some (id,B)) (hown:B.own=true) (he:Nat.beq B.elem.tid e=true) (hl:B.cells.length=len * sz) (hzl:Nat.beq z.length sz=true) (hq:Xu H sz q=some (m,xs)) (h1:xs.all XZ=true)
    (hb:(len+m) * bytes≤140737488355328) (h63:len+m≤9223372036854775807)
    (h:∀ id' G,Has G (L.set k (id',⟨B.cells++xs,e,true⟩))→wpL P n ops rest Q ((d,.sl id' 0 (len+m) sz)::E) G):wpL P n ops (o::rest) Q E H :=
  Xfs hg hd hn (Xcg ho hx hy hzl hq h1 (Xdi (hG.get k id B hk) hown he (by rw [hl];exact Nat.beq_refl _)) hb h63) (h _ _ (hG.grow hk _))
theorem Has.cellsOf {len:Nat} {cs:List PV} (hG:Has H L) (hk:L[k]?=some (id,B)) (hc:Xav (len * sz) (B.cells.drop off)=some cs):Xu H sz (.sl id off len sz)=some (len,cs):=XiJ (hG.get k id B hk) hc
theorem R.alt {m:Mp} {w:World} (h:R m H w) (hB:H[id]?=some (some B)) (B':Blk) (ho:B'.own=B.own) (he:B'.elem=B.elem) (hl:B'.cells.length=B.cells.length)
    (hc:∀ (j:Nat) (c':PV),B'.cells[j]?=some c'→∃ c,B.cells[j]?=some c∧∀ v,Rep m w c v→Rep m w c' v):R m (H.set id (some B')) w:=by
  have back:∀ i C,(H.set id (some B'))[i]?=some (some C)→∃ D,H[i]?=some (some D)∧D.own=C.own∧(i=id∧C=B'∨i≠id∧D=C):=fun i C hi=>by
    rcases XQ hi with ⟨rfl,e⟩ | ⟨hne,hi⟩
    · cases e;exact ⟨B,hB,ho.symm,.inl ⟨rfl,rfl⟩⟩
    · exact ⟨C,hi,rfl,.inr ⟨hne,rfl⟩⟩
  refine ⟨h.rk,h.kl,fun i x hx=>by simpa using h.dom i x hx,fun i C b d lim hi hm=>?_,fun i j C D bi di li bj dj lj hne hi hj h1 h2 hmi hmj=>?_,by simpa using h.top⟩
  · obtain ⟨D,hD,hDo,hcase⟩:=back i C hi
    obtain ⟨q1,⟨cur,c1,c2,c3,c4⟩,q3,q4⟩:=h.blk i D b d lim hD hm
    rcases hcase with ⟨rfl,rfl⟩ | ⟨_,rfl⟩
    · rw [hB] at hD;cases hD
      refine ⟨q1,⟨cur,by rw [he];exact c1,c2,by rw [hl];exact c3,fun j c' hj=>?_⟩,by rw [ho];exact q3,by rw [ho];exact q4⟩
      obtain ⟨c,hcj,hcv⟩:=hc j c' hj
      obtain ⟨v,hv,hr,h1⟩:=c4 j c hcj
      exact ⟨v,hv,hcv v hr,h1⟩
    · exact ⟨q1,⟨cur,c1,c2,c3,c4⟩,q3,q4⟩
  · obtain ⟨C',hC',hCo,_⟩:=back i C hi
    obtain ⟨D',hD',hDo,_⟩:=back j D hj
    exact h.inj i j C' D' _ _ _ _ _ _ hne hC' hD' (by rw [hCo];exact h1) (by rw [hDo];exact h2) hmi hmj
theorem X1 {c:Code} (t:Nat) (e:TypeId) (sz:Nat) (hG:Has H L) (ht:E.get t=some (.v (.slice none 0 0))) (h:∀ id G,Has G ((id,⟨[],e,true⟩)::L)→wpA P n c Q ((t,.sl id 0 0 sz)::E) G):wpA P n c Q E H :=
  Xor t e sz ht (h _ _ (hG.new _))
theorem XcD {c:Code} (k j:Nat) (e:TypeId) (sz:Nat) (hG:Has H L) (hk:L[k]?=some (id,B)) (hc:B.cells[j]?=some (.v (.slice none 0 0)))
    (h:∀ i G,Has G ((i,⟨[],e,true⟩)::L.set k (id,{ B with cells:=B.cells.set j (.sl i 0 0 sz) }))→wpA P n c Q E G):wpA P n c Q E H:=by
  rintro rd m0 w0 a w ⟨h1,h2,m,h3,h4,h5⟩
  have hB:=hG.get k id B hk
  have hR:R m ((H++[some (Blk.mk [] e true)]).set id (some (Blk.mk (B.cells.set j (.sl H.length 0 0 sz)) B.elem B.own))) w:=by
    refine (h4.ghost (Blk.mk [] e true)).alt (XpF hB) _ rfl rfl (by simp) fun j' c' hj'=>?_
    rcases XeV hj' with ⟨rfl,rfl⟩ | ⟨_,hj'⟩
    · refine ⟨_,hc,fun v hv=>?_⟩
      rw [XJ hv]
      exact .sl0 none
    · exact ⟨c',hj',fun v hv=>hv⟩
  have hH:Has ((H++[some (Blk.mk [] e true)]).set id (some (Blk.mk (B.cells.set j (.sl H.length 0 0 sz)) B.elem B.own))) ((H.length,Blk.mk [] e true)::L.set k (id,Blk.mk (B.cells.set j (.sl H.length 0 0 sz)) B.elem B.own)) :=
    (hG.new (Blk.mk [] e true)).set (k:=k+1) (by simpa using hk) _
  exact h _ _ hH rd m0 w0 a w ⟨h1,h2,m,h3,hR,h5⟩
end
end Go.Th
