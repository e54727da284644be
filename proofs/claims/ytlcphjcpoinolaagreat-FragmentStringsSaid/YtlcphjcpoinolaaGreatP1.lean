/- Part of the proof: the walk over the program and its laws: ThA. -/
import Derived.WalkKit
import Derived.OrdersIn
import Derived.TacticsIn
import Derived.RangeFuncLeaves
import Derived.RangeFuncNested
import Derived.Test.YtlcphjcpoinolaaGreatP0
set_option linter.unusedVariables false
namespace Go.Th
open Go.RowKit
inductive PV where
  | v (x:Value)
  | ptr (id off:Nat)
  | ept (cells:List PV) (off:Nat)
  | sl (id off len sz:Nat)
  | tr (cells:List PV) (len sz:Nat)
  | fn (f:Fn) (cap:List PV)
  | agg (cells:List PV)
  | tup (vs:List PV)
  | mp (id:Nat)
  | it (id:Nat)
  | yld (id:Nat)
  deriving Inhabited
inductive Elem where
  | ty (t:TypeId)
  | loop (fn:FuncId) (params:Array Tmp) (assign body:Code) (n:Nat) (ts:List Nat)
instance (n:Nat):OfNat Elem n:=⟨.ty n⟩
instance:Coe TypeId Elem:=⟨.ty⟩
def Elem.tid:Elem→TypeId
  | .ty t=>t
  | _=>0
structure Blk where
  cells:List PV
  elem:Elem
  own:Bool
abbrev Xh:=List (Option Blk)
structure Mp where
  blk:Nat→Option (Nat × Nat × Nat)
  ro:Nat→Prop
  keep:Nat→Prop
  top:Nat:=0
def Xe3:Value→Bool
  | .agg _=>false
  | _=>true
inductive Rep (m:Mp) (w:World):PV→Value→Prop
  | v (x:Value) (h:Xe3 x=true):Rep m w (.v x) x
  | ptr {id off b lim:Nat} (h:m.blk id=some (b,0,lim)):Rep m w (.ptr id off) (.pointer (some ⟨b,0+off,none⟩))
  | mp {id b lim:Nat} (h:m.blk id=some (b,1,lim)):Rep m w (.mp id) (.map (some b))
  | it {id b k lim:Nat} (h:m.blk id=some (b,k+2,lim)):Rep m w (.it id) (.pointer (some ⟨b,0,none⟩))
  | yld {id b lim:Nat} (h:m.blk id=some (b,4,lim)):Rep m w (.yld id) (.func (.yield b) #[] #[])
  | ept {cells:List PV} {off b o:Nat} (f:Nat→Value) (hr:m.ro b) (hc:∀ j c,cells[j]?=some c→w.cell? ⟨b,o+j,none⟩=some (f j))
      (h:∀ j c,cells[j]?=some c→Rep m w c (f j)):Rep m w (.ept cells off) (.pointer (some ⟨b,o+off,none⟩))
  | sl {id off len sz b lim cap:Nat} (h:m.blk id=some (b,0,lim)) (h1:len≤cap) (h2:cap≤maxLen) (h3:0+off+cap * sz≤lim) :
      Rep m w (.sl id off len sz) (.slice (some ⟨b,0+off,none⟩) len cap)
  | sl0 {id off sz:Nat} (a:Option Addr):Rep m w (.sl id off 0 sz) (.slice a 0 0)
  | tr {cells:List PV} {len sz b o cap:Nat} (f:Nat→Value) (hr:m.ro b) (hl:cells.length=len * sz) (h1:len≤cap) (h2:cap≤maxLen)
      (hc:∀ j c,cells[j]?=some c→w.cell? ⟨b,o+j,none⟩=some (f j)) (h:∀ j c,cells[j]?=some c→Rep m w c (f j)):Rep m w (.tr cells len sz) (.slice (some ⟨b,o,none⟩) len cap)
  | tr0 {sz cap:Nat} (a:Addr) (h2:cap≤maxLen):Rep m w (.tr [] 0 sz) (.slice (some a) 0 cap)
  | trn {sz:Nat}:Rep m w (.tr [] 0 sz) (.slice none 0 0)
  | fn {f:Fn} {cap:List PV} (vs:Array Value) (hl:vs.size=cap.length) (h:∀ j c,cap[j]?=some c→Rep m w c (vs.getD j undef)):Rep m w (.fn f cap) (.func f #[] vs)
  | agg {cells:List PV} (vs:Array Value) (hl:vs.size=cells.length) (h:∀ j c,cells[j]?=some c→Rep m w c (vs.getD j undef)):Rep m w (.agg cells) (.agg vs)
  | tup {cells:List PV} (vs:Array Value) (hl:vs.size=cells.length) (h:∀ j c,cells[j]?=some c→Rep m w c (vs.getD j undef)):Rep m w (.tup cells) (.tuple vs)
structure Le (m:Mp) (w:World) (m':Mp) (w':World):Prop where
  blk:∀ id x,m.blk id=some x→m'.blk id=some x
  ro:∀ b,m.ro b→m'.ro b
  keep:∀ b,m.keep b→m'.keep b
  same:∀ b,m.keep b→w'.heap[b]?=w.heap[b]?
  size:w.heap.size≤w'.heap.size
  os:w'.os=w.os
  tape:w'.tape=w.tape
  output:w'.output=w.output
  fresh:∀ b,m'.ro b→m.ro b∨¬ m.keep b
  top:m'.top=m.top
  old:∀ id,id < m.top→m'.blk id=m.blk id
theorem Le.refl (m:Mp) (w:World):Le m w m w:=⟨fun _ _ h=>h,fun _ h=>h,fun _ h=>h,fun _ _=>rfl,Nat.le_refl _,rfl,rfl,rfl,fun _ h=>.inl h,rfl,fun _ _=>rfl⟩
theorem Le.trans {m m1 m2:Mp} {w w1 w2:World} (h:Le m w m1 w1) (k:Le m1 w1 m2 w2):Le m w m2 w2 :=
  ⟨fun i x hx=>k.blk i x (h.blk i x hx),fun b hb=>k.ro b (h.ro b hb),fun b hb=>k.keep b (h.keep b hb),fun b hb=>(k.same b (h.keep b hb)).trans (h.same b hb),
    Nat.le_trans h.size k.size,k.os.trans h.os,k.tape.trans h.tape,k.output.trans h.output,
    fun b hb=>(k.fresh b hb).elim (fun h1=>h.fresh b h1) (fun h1=>.inr fun h2=>h1 (h.keep b h2)),
    k.top.trans h.top,fun id hid=>(k.old id (by rw [h.top];exact hid)).trans (h.old id hid)⟩
theorem Le.cell {m m':Mp} {w w':World} (h:Le m w m' w') {b o:Nat} (hb:m.keep b):w'.cell? ⟨b,o,none⟩=w.cell? ⟨b,o,none⟩ :=
  World.cell?_of_block (w:=w) (w':=w') (a:=⟨b,o,none⟩) (h.same b hb)
theorem Rep.mono' {m m':Mp} {w w':World} (hb:∀ id x,m.blk id=some x→m'.blk id=some x) (hro:∀ b,m.ro b→m'.ro b) (hcell:∀ (b o:Nat),m.ro b→w'.cell? ⟨b,o,none⟩=w.cell? ⟨b,o,none⟩) {p:PV} {v:Value} (r:Rep m w p v):Rep m' w' p v:=by
  induction r with
  | v x hx=>exact .v x hx
  | ptr h=>exact .ptr (hb _ _ h)
  | mp h=>exact .mp (hb _ _ h)
  | it h=>exact .it (hb _ _ h)
  | yld h=>exact .yld (hb _ _ h)
  | ept f hr hc _ ih=>exact .ept f (hro _ hr) (fun j c hj=>(hcell _ _ hr).trans (hc j c hj)) ih
  | sl h h1 h2 h3=>exact .sl (hb _ _ h) h1 h2 h3
  | sl0 a=>exact .sl0 a
  | tr f hr hl h1 h2 hc _ ih=>exact .tr f (hro _ hr) hl h1 h2 (fun j c hj=>(hcell _ _ hr).trans (hc j c hj)) ih
  | tr0 a h2=>exact .tr0 a h2
  | trn=>exact .trn
  | fn vs hl _ ih=>exact .fn vs hl ih
  | agg vs hl _ ih=>exact .agg vs hl ih
  | tup vs hl _ ih=>exact .tup vs hl ih
theorem Rep.mono {m m':Mp} {w w':World} (hk:∀ b,m.ro b→m.keep b) (h:Le m w m' w') {p:PV} {v:Value} (r:Rep m w p v):Rep m' w' p v :=
  r.mono' h.blk h.ro fun b _ hb=>h.cell (hk b hb)
def Xej (es:Array MapEntry) (clock:Nat):Array Value:=(Value.int .i64 clock::es.toList.flatMap fun e=>[e.key,e.val,.int .i64 e.born]).toArray
def XbU:Nat→Option Code
  | 0=>none
  | 1=>some .ret
  | k+2=>some (.exit k)
def XjR:Nat→LoopState
  | 0=>.ready
  | 1=>.busy
  | 2=>.done
  | _=>.exhausted
def XcY (o:Option Obj) (e:Elem) (cur:Array Value):Nat→Prop
  | 0=>o=some (.cells cur e.tid (0,0))
  | 1=>∃ es clock,o=some (.map es clock)∧cur=#[.func (.func 0) #[] (Xej es clock)]
  | 2=>∃ s pos,o=some (.stringIter s pos)∧cur=#[.func (.func 1) #[] #[.string s,.int .i64 (pos:Nat)]]
  | 3=>∃ b since seen last,o=some (.mapIter (some b) since seen last)∧cur=#[.func (.func 2) #[] (Value.map (some b)::.int .i64 (since:Nat)::.int .i64 (last:Nat)::seen.toList.map fun (n:Nat)=>.int .i64 n).toArray]
  | _=>∃ fn params assign body n ts tmps D s p,s≤3∧e=.loop fn params assign body n ts∧o=some (.loop { state:=XjR s,pending:=XbU p,fn,tmps,params,assign,body,defers:=D }) ∧
      tmps.size=n∧cur=#[.func (.func 3) #[] ((Value.int .i64 (s:Nat)::.int .i64 (p:Nat)::ts.map fun t=>tmps.getD t undef).toArray)]
theorem XcY.some {o:Option Obj} {e:Elem} {cur:Array Value} {d:Nat} (h:XcY o e cur d):o≠none:=by
  rintro rfl
  unfold XcY at h
  split at h
  · cases h
  · obtain ⟨_,_,h,_⟩:=h;cases h
  · obtain ⟨_,_,h,_⟩:=h;cases h
  · obtain ⟨_,_,_,_,h,_⟩:=h;cases h
  · obtain ⟨_,_,_,_,_,_,_,_,_,_,_,_,h,_⟩:=h;cases h
theorem Xn7 {p q:Nat} (h:XbU p=XbU q):p=q:=by
  unfold XbU at h
  split at h <;> split at h <;> first | rfl | (cases h;done) | (injection h with h;first | (cases h;rfl) | (injection h with h;omega))
theorem XrZ {s r:Nat} (h1:s≤3) (h2:r≤3) (h:XjR s=XjR r):s=r :=
  (by decide:∀ s,s≤3→∀ r,r≤3→XjR s=XjR r→s=r) s h1 r h2 h
theorem XcY.uniq {o:Option Obj} {e:Elem} {cur cur':Array Value}:∀ {d:Nat},XcY o e cur d→XcY o e cur' d→cur'=cur
  | 0,h,k=>by
    have h:o=Option.some (.cells cur e.tid (0,0)):=h
    have k:o=Option.some (.cells cur' e.tid (0,0)):=k
    rw [h] at k;cases k;rfl
  | 1,⟨_,_,h1,h2⟩,⟨_,_,k1,k2⟩=>by rw [h1] at k1;cases k1;rw [h2,k2]
  | 2,⟨_,_,h1,h2⟩,⟨_,_,k1,k2⟩=>by rw [h1] at k1;cases k1;rw [h2,k2]
  | 3,⟨_,_,_,_,h1,h2⟩,⟨_,_,_,_,k1,k2⟩=>by rw [h1] at k1;cases k1;rw [h2,k2]
  | _+4,⟨_,_,_,_,_,_,_,_,s,p,h0,he,h1,_,h2⟩,⟨_,_,_,_,_,_,_,_,r,q,k0,ke,k1,_,k2⟩=>by
    rw [h1] at k1
    simp only [Option.some.injEq,Obj.loop.injEq,Loop.mk.injEq] at k1
    obtain ⟨e1,e2,_,e3,_⟩:=k1
    rw [he] at ke
    simp only [Elem.loop.injEq] at ke
    obtain ⟨_,_,_,_,_,e4⟩:=ke
    rw [h2,k2,XrZ h0 k0 e1,Xn7 e2,e3,e4]
def Xeu (m:Mp) (w:World) (B:Blk) (b d lim:Nat):Prop :=
  ∃ cur:Array Value,XcY w.heap[b]? B.elem cur d∧cur.size=lim∧0+B.cells.length≤lim ∧
    ∀ j c,B.cells[j]?=some c→∃ v,cur[0+j]?=some v∧Rep m w c v∧v.oneCell'=true
structure R (m:Mp) (H:Xh) (w:World):Prop where
  rk:∀ b,m.ro b→m.keep b
  kl:∀ b,m.keep b→b < w.heap.size
  dom:∀ id x,m.blk id=some x→id < H.length
  blk:∀ id B b d lim,H[id]?=some (some B)→m.blk id=some (b,d,lim)→True∧Xeu m w B b d lim∧(B.own=true→¬ m.keep b)∧(B.own=false→m.ro b)
  inj:∀ i j B C bi di li bj dj lj,i≠j→H[i]?=some (some B)→H[j]?=some (some C)→B.own=true→C.own=true→m.blk i=some (bi,di,li)→m.blk j=some (bj,dj,lj)→bi≠bj
  top:m.top≤H.length
theorem R.nil {m:Mp} {w:World} (h1:∀ b,m.ro b→m.keep b) (h2:∀ b,m.keep b→b < w.heap.size) (h3:∀ id,m.blk id=none) (h4:m.top=0):R m [] w :=
  ⟨h1,h2,(fun id x h=>by rw [h3 id] at h;cases h),(fun id B _ _ _ h=>by simp at h),(fun i j B C _ _ _ _ _ _ _ h=>by simp at h),by simp [h4]⟩
theorem R.mono_rep {m:Mp} {H:Xh} {w:World} (h:R m H w) {m':Mp} {w':World} (hl:Le m w m' w') {p:PV} {v:Value} (r:Rep m w p v):Rep m' w' p v:=r.mono h.rk hl
theorem R.lt {m:Mp} {H:Xh} {w:World} (h:R m H w) {id b d lim:Nat} {B:Blk} (hi:H[id]?=some (some B)) (hm:m.blk id=some (b,d,lim)):b < w.heap.size:=by
  obtain ⟨_,⟨cur,hc,_⟩,_⟩:=h.blk id B b d lim hi hm
  rcases Nat.lt_or_ge b w.heap.size with hlt | hge
  · exact hlt
  · rw [Array.getElem?_eq_none hge] at hc;exact absurd rfl hc.some
theorem R.world {m:Mp} {H:Xh} {w w':World} (h:R m H w) (hs:w.heap.size≤w'.heap.size) (hos:w'.os=w.os) (ht:w'.tape=w.tape) (ho:w'.output=w.output)
    (hk:∀ b,m.keep b→w'.heap[b]?=w.heap[b]?) (hb:∀ id B b d lim,H[id]?=some (some B)→m.blk id=some (b,d,lim)→w'.heap[b]?=w.heap[b]?) :
    R m H w'∧Le m w m w':=by
  have hle:Le m w m w':=⟨fun _ _ h=>h,fun _ h=>h,fun _ h=>h,hk,hs,hos,ht,ho,fun _ h=>.inl h,rfl,fun _ _=>rfl⟩
  refine ⟨⟨h.rk,fun b hb=>Nat.lt_of_lt_of_le (h.kl b hb) hs,h.dom,fun id B b d lim hi hm=>?_,h.inj,h.top⟩,hle⟩
  obtain ⟨h0,⟨cur,hc,h1,h2,h3⟩,h4,h5⟩:=h.blk id B b d lim hi hm
  refine ⟨h0,⟨cur,by rw [hb id B b d lim hi hm];exact hc,h1,h2,fun j c hj=>?_⟩,h4,h5⟩
  obtain ⟨v,hv,hr,h1v⟩:=h3 j c hj
  exact ⟨v,hv,hr.mono h.rk hle,h1v⟩
theorem R.drew {m:Mp} {H:Xh} {w:World} (h:R m H w):R m H w.drew∧Le m w m w.drew :=
  h.world (Nat.le_refl _) rfl rfl rfl (fun _ _=>rfl) (fun _ _ _ _ _ _ _=>rfl)
theorem R.alloc_any {m:Mp} {H:Xh} {w:World} (h:R m H w) (o:Obj):R m H (w.alloc o)∧Le m w m (w.alloc o) :=
  h.world (by simp) rfl rfl rfl (fun b hb=>Below.heap_alloc w o b (h.kl b hb)) (fun id B b d lim hi hm=>Below.heap_alloc w o b (h.lt hi hm))
theorem XH {H:Xh} {id i:Nat} {x y:Option Blk} (h:(H.set id x)[i]?=some y):(i=id∧y=x)∨(i≠id∧H[i]?=some y):=by
  by_cases e:i=id
  · subst e
    rw [List.getElem?_set_self'] at h
    cases hh:H[i]? with
    | none=>rw [hh] at h;simp at h
    | some z=>rw [hh] at h;simp at h;exact .inl ⟨rfl,h.symm⟩
  · rw [List.getElem?_set_ne (fun e'=>e e'.symm)] at h
    exact .inr ⟨e,h⟩
theorem R.kill {m:Mp} {H:Xh} {w:World} (h:R m H w) (id:Nat):R m (H.set id none) w:=by
  refine ⟨h.rk,h.kl,fun i x hx=>by simpa using h.dom i x hx,fun i B b d lim hi hm=>?_,fun i j B C bi di li bj dj lj hne hi hj=>?_,by simpa using h.top⟩
  · rcases XH hi with ⟨_,e⟩ | ⟨_,e⟩
    · cases e
    · exact h.blk i B b d lim e hm
  · rcases XH hi with ⟨_,e⟩ | ⟨_,ei⟩
    · cases e
    · rcases XH hj with ⟨_,e⟩ | ⟨_,ej⟩
      · cases e
      · exact h.inj i j B C bi di li bj dj lj hne ei ej
theorem XdH {H:Xh} {i:Nat} {B:Blk} (hi:(H++[none])[i]?=some (some B)):H[i]?=some (some B):=by
  rcases Nat.lt_or_ge i H.length with hlt | hge
  · rwa [List.getElem?_append_left hlt] at hi
  · rw [List.getElem?_append_right hge] at hi
    cases hk:i - H.length with
    | zero=>rw [hk] at hi;simp at hi
    | succ k=>rw [hk] at hi;simp at hi
theorem R.ext {m:Mp} {H:Xh} {w:World} (h:R m H w) (x:Nat × Nat × Nat) :
    R { m with blk:=fun i=>if i=H.length then some x else m.blk i } (H++[none]) w∧Le m w { m with blk:=fun i=>if i=H.length then some x else m.blk i } w:=by
  have hle:Le m w { m with blk:=fun i=>if i=H.length then some x else m.blk i } w :=
    ⟨fun i y hy=>by
      have:=h.dom i y hy
      show (if i=H.length then some x else m.blk i)=some y
      rw [if_neg (by omega)];exact hy,fun _ h=>h,fun _ h=>h,fun _ _=>rfl,Nat.le_refl _,rfl,rfl,rfl,fun _ h=>.inl h,rfl,fun id hid=>by
      have:=h.top
      show (if id=H.length then some x else m.blk id)=m.blk id
      rw [if_neg (by omega)]⟩
  have old:∀ i B y,(H++[none])[i]?=some (some B)→(if i=H.length then some x else m.blk i)=some y→m.blk i=some y:=fun i B y hi hy=>by
    have:=(List.getElem?_eq_some_iff.1 (XdH hi)).1
    rwa [if_neg (by omega)] at hy
  refine ⟨⟨h.rk,h.kl,fun i y hy=>?_,fun i B b d lim hi hm=>?_,fun i j B C bi di li bj dj lj hne hi hj ho1 ho2 hmi hmj=>?_,by have:=h.top;simp only [List.length_append,List.length_cons,List.length_nil];omega⟩,hle⟩
  · simp only [List.length_append,List.length_cons,List.length_nil]
    by_cases e:i=H.length
    · omega
    · have hy':m.blk i=some y:=by simpa [e] using hy
      have:=h.dom i y hy'
      omega
  · obtain ⟨h0,⟨cur,h1,h2,h3,h4⟩,h5⟩:=h.blk i B b d lim (XdH hi) (old i B _ hi hm)
    exact ZcT
  · exact ZcU
theorem R.put {m:Mp} {H:Xh} {w:World} (h:R m H w) {id b d lim:Nat} (B:Blk) (hm:m.blk id=some (b,d,lim)) (hB:Xeu m w B b d lim) (ho:B.own=true) (hk:¬ m.keep b)
    (hfree:∀ i C di li,i≠id→H[i]?=some (some C)→C.own=true→m.blk i≠some (b,di,li)):R m (H.set id (some B)) w:=by
  refine ⟨h.rk,h.kl,fun i x hx=>by simpa using h.dom i x hx,fun i C b' d' lim' hi hm'=>?_,fun i j C D bi di li bj dj lj hne hi hj ho1 ho2 hmi hmj=>?_,by simpa using h.top⟩
  · rcases XH hi with ⟨e1,e⟩ | ⟨_,e⟩
    · cases e;subst e1
      rw [hm] at hm';cases hm'
      exact ⟨trivial,hB,fun _=>hk,fun e=>by rw [ho] at e;cases e⟩
    · exact h.blk i C b' d' lim' e hm'
  · rcases XH hi with ⟨e1,e⟩ | ⟨n1,ei⟩
    · rcases XH hj with ⟨e2,_⟩ | ⟨n2,ej⟩
      · omega
      · subst e1
        rw [hm] at hmi;cases hmi
        rintro rfl
        exact hfree j D dj lj n2 ej ho2 hmj
    · rcases XH hj with ⟨e2,e⟩ | ⟨n2,ej⟩
      · subst e2
        rw [hm] at hmj;cases hmj
        rintro rfl
        exact hfree i C di li n1 ei ho1 hmi
      · exact h.inj i j C D bi di li bj dj lj hne ei ej ho1 ho2 hmi hmj
theorem R.add {m:Mp} {H:Xh} {w:World} (h:R m H w) (B:Blk) {b d lim:Nat} (hB:Xeu m w B b d lim) (ho:B.own=true) (hk:¬ m.keep b)
    (hfree:∀ i C di li,H[i]?=some (some C)→C.own=true→m.blk i≠some (b,di,li)) :
    R { m with blk:=fun i=>if i=H.length then some (b,d,lim) else m.blk i } (H++[some B]) w∧Le m w { m with blk:=fun i=>if i=H.length then some (b,d,lim) else m.blk i } w:=by
  obtain ⟨h1,hle⟩:=h.ext (b,d,lim)
  refine ⟨?_,hle⟩
  have h2:=h1.put (id:=H.length) (b:=b) (d:=d) (lim:=lim) B (by simp) ?_ ho hk ?_
  · have e:(H++[none]).set H.length (some B)=H++[some B]:=by
      rw [List.set_append_right _ _ (Nat.le_refl _)]
      simp
    rwa [e] at h2
  · obtain ⟨cur,a1,a2,a3,a4⟩:=hB
    exact ZcV
  · intro i C di li hne hi hown hmi
    have hi':H[i]?=some (some C):=by
      rcases Nat.lt_or_ge i H.length with hlt | hge
      · rwa [List.getElem?_append_left hlt] at hi
      · have:i < (H++[none]).length:=(List.getElem?_eq_some_iff.1 hi).1
        simp at this
        omega
    have hmi':m.blk i=some (b,di,li):=by simpa [hne] using hmi
    exact hfree i C di li hi' hown hmi'
theorem R.ghost {m:Mp} {H:Xh} {w:World} (h:R m H w) (B:Blk):R m (H++[some B]) w:=by
  have live:∀ i C x,(H++[some B])[i]?=some (some C)→m.blk i=some x→H[i]?=some (some C):=fun i C x hi hm=>by
    have:=h.dom i x hm
    rwa [List.getElem?_append_left this] at hi
  refine ⟨h.rk,h.kl,fun i x hx=>?_,fun i C b d lim hi hm=>h.blk i C b d lim (live i C _ hi hm) hm,fun i j C D bi di li bj dj lj hne hi hj ho1 ho2 hmi hmj=>?_,by have:=h.top;simp only [List.length_append,List.length_cons,List.length_nil];omega⟩
  · have:=h.dom i x hx
    simp only [List.length_append,List.length_cons,List.length_nil]
    omega
  · exact ZcW
theorem R.new {m:Mp} {H:Xh} {w:World} (h:R m H w) (cells:List PV) (e:TypeId) (cur:Array Value) (hlen:cells.length≤cur.size)
    (hr:∀ (j:Nat) (c:PV),cells[j]?=some c→∃ v:Value,cur[j]?=some v∧Rep m w c v∧v.oneCell'=true) :
    R { m with blk:=fun i=>if i=H.length then some (w.heap.size,0,cur.size) else m.blk i } (H++[some ⟨cells,e,true⟩]) (w.alloc (.cells cur e)) ∧
    Le m w { m with blk:=fun i=>if i=H.length then some (w.heap.size,0,cur.size) else m.blk i } (w.alloc (.cells cur e)):=by
  obtain ⟨h1,hle1⟩:=h.alloc_any (.cells cur e)
  have hB:Xeu m (w.alloc (.cells cur e)) ⟨cells,e,true⟩ w.heap.size 0 cur.size:=by
    refine ⟨cur,heap_alloc_new w _,rfl,by simpa using hlen,fun j c hj=>?_⟩
    obtain ⟨v,hv,hr',h1v⟩:=hr j c hj
    exact Zb5
  have h2:=h1.add ⟨cells,e,true⟩ hB rfl (fun hk=>by
      have:=h.kl _ hk;omega) (fun i C di li hi _ hmi=>by have:=h.lt hi hmi;omega)
  exact ⟨h2.1,hle1.trans h2.2⟩
end Go.Th
namespace Go.Th
open Go.RowKit
abbrev Env:=List (Nat × PV)
def Env.get:Env→Nat→Option PV
  | [],_=>none
  | (k,p)::r,t=>match Nat.beq k t with
    | true=>some p
    | false=>Env.get r t
def Env.ev (E:Env):Operand→Option PV
  | .tmp t=>E.get t
  | .const x=>match Xe3 x with | true=>some (.v x) | false=>none
  | .global g=>some (.v (.pointer (some ⟨g,0,none⟩)))
  | .func f=>some (.fn (.func f) [])
def FR (m:Mp) (w:World) (E:Env) (a:Act):Prop:=∀ t p,E.get t=some p→Rep m w p (a.tmps.getD t undef)
theorem FR.mono {m m':Mp} {w w':World} {E:Env} {a:Act} (hk:∀ b,m.ro b→m.keep b) (hl:Le m w m' w') (h:FR m w E a):FR m' w' E a :=
  fun t p ht=>(h t p ht).mono hk hl
theorem Env.get_cons (k t:Nat) (p:PV) (E:Env):Env.get ((k,p)::E) t=if k=t then some p else E.get t:=by
  simp only [Env.get]
  cases h:Nat.beq k t with
  | true=>simp [Nat.eq_of_beq_eq_true h]
  | false =>
    have:k≠t:=fun e=>by rw [e] at h;simp at h
    simp [this]
theorem FR.put {m:Mp} {w:World} {E:Env} {a:Act} (h:FR m w E a) {d:Nat} (hd:d < a.tmps.size) {p:PV} {v:Value} (hr:Rep m w p v):FR m w ((d,p)::E) (a.put (some d) v):=by
  intro t q ht
  rw [Env.get_cons] at ht
  by_cases e:d=t
  · subst e
    rw [if_pos rfl] at ht
    cases ht
    simpa [Act.put,Array.getD_eq_getD_getElem?,hd] using hr
  · rw [if_neg e] at ht
    have:=h t q ht
    simpa [Act.put,Array.getD_eq_getD_getElem?,Array.getElem?_setIfInBounds_ne e] using this
theorem FR.ev {m:Mp} {w:World} {E:Env} {a:Act} (h:FR m w E a) {x:Operand} {p:PV} (hx:E.ev x=some p):Rep m w p (a.eval x):=by
  cases x with
  | tmp t=>exact h t p hx
  | const v =>
    simp only [Env.ev] at hx
    split at hx
    · rename_i hn;cases hx;exact .v v hn
    · cases hx
  | global g=>simp only [Env.ev] at hx;cases hx;exact .v _ rfl
  | func f=>simp only [Env.ev] at hx;cases hx;exact .fn #[] rfl (fun j c hj=>by simp at hj)
def fen:Option Nat→Fence
  | none=>Fence.wide
  | some l=>Fence.wide.inRound l
theorem Xcm (rd:Option Nat) (f:FuncId):(fen rd).fn f:=by cases rd <;> trivial
theorem XcT (rd:Option Nat):(fen rd).depth.isSome=true→1≤0:=by cases rd <;> (intro h;cases h)
theorem Xho (rd:Option Nat):(fen rd).round=rd:=by cases rd <;> rfl
theorem Xen {rd:Option Nat} {k:Nat} {P:Program} {f:FuncId} {args:Array Value} {w:World} {R:Ending→World→Prop} (h:Calls P f args w R):CallsIn (fen rd) k P f args w R:=by
  have h:=(callsIn_wide (n:=k)).2 h
  cases rd <;> exact h
theorem XgA {P:Program} {rd:Option Nat} {ρ:Operand→Value} {o:Oper} {r:Next} {w w':World} (h:(execOp ρ o).run P w=.ok r w') (hr:∀ d,r≠.defer d):Oper.semAt rd ρ o=execOp ρ o:=by
  refine Oper.semAt_eq _ _ _ fun c hc=>?_
  simp only [execOp,hc,Sem.run_bind] at h
  cases hx:(resolve ρ c o.type).run P w with
  | ok d w1=>rw [hx] at h;simp at h;exact hr _ h.1.symm
  | halt x w1=>rw [hx] at h;simp at h
section
variable {P:Program} {rd:Option Nat} {o:Oper} {a:Act} {w w':World} {K:Act→World→Prop} {Q:Exit→Act→World→Prop}
theorem XeA {v:Value} (h:(execOp a.eval o).run P w=.ok (.value v) w') (k:K (a.put o.dst v) w'):o.wpIn (fen rd) 0 P a w K Q:=by
  refine ⟨fun f _=>Xcm rd f,?_⟩
  rw [XgA h (fun d=>by simp),h,Oper.uponIn_value]
  exact k
theorem XpB (h:(execOp a.eval o).run P w=.ok .skip w') (k:K (a.put o.dst undef) w'):o.wpIn (fen rd) 0 P a w K Q:=by
  refine ⟨fun f _=>Xcm rd f,?_⟩
  rw [XgA h (fun d=>by simp),h,Oper.uponIn_skip]
  exact k
theorem Xi0 {f:FuncId} {args:Array Value} (h:(execOp a.eval o).run P w=.ok (.enter f args) w') (k:Calls P f args w' fun e w''=>∃ v,e=.returned v∧K (a.put o.dst v) w''):o.wpIn (fen rd) 0 P a w K Q:=by
  refine ⟨fun f _=>Xcm rd f,?_⟩
  rw [XgA h (fun d=>by simp),h,Oper.uponIn_enter]
  refine ⟨XcT rd,Xen (k.mono ?_)⟩
  rintro e w'' ⟨v,rfl,hk⟩
  exact hk
end
def LeD (m0:Mp) (w0:World) (m:Mp) (w:World) (ds:List Deferred):Prop :=
  Le m0 w0 m w∧∃ bs:List Nat,bs.Nodup∧ds=bs.map (fun b=>{ target:=.collected b,args:=#[] })∧∀ b ∈ bs,m.keep b∧¬ m0.keep b∧w.heap[b]?=some (.deferred (some []))
theorem LeD.le {m0 m:Mp} {w0 w:World} {ds:List Deferred} (h:LeD m0 w0 m w ds):Le m0 w0 m w:=h.1
theorem LeD.trans {m0 m m':Mp} {w0 w w':World} {ds:List Deferred} (h:LeD m0 w0 m w ds) (k:Le m w m' w'):LeD m0 w0 m' w' ds :=
  let ⟨bs,h1,h2,h3⟩:=h.2;⟨h.1.trans k,bs,h1,h2,fun b hb=>let ⟨a1,a2,a3⟩:=h3 b hb;⟨k.keep b a1,a2,(k.same b a1).trans a3⟩⟩
theorem LeD.top {m0 m:Mp} {w0 w:World} {ds:List Deferred} (h:LeD m0 w0 m w ds):m.top=m0.top:=h.1.top
theorem LeD.refl (m:Mp) (w:World):LeD m w m w []:=⟨Le.refl m w,[],List.nodup_nil,rfl,fun b hb=>by simp at hb⟩
theorem LeD.put {m0 m:Mp} {w0 w:World} {a:Act} {d:Option Nat} {v:Value} (h:LeD m0 w0 m w a.defers):LeD m0 w0 m w (a.put d v).defers:=by cases d <;> exact h
def RdK (rd:Option Nat) (m0:Mp) (w0:World):Prop:=∀ l,rd=some l→m0.keep l∧∃ r,w0.heap[l]?=some (.loop r)
theorem RdK.none (m0:Mp) (w0:World):RdK .none m0 w0:=fun l h=>by cases h
def At (rd:Option Nat) (m0:Mp) (w0:World) (n:Nat) (E:Env) (H:Xh) (a:Act) (w:World):Prop :=
  a.tmps.size=n∧RdK rd m0 w0∧∃ m,LeD m0 w0 m w a.defers∧R m H w∧FR m w E a
abbrev QA:=Exit→Env→Xh→Prop
def Qr (rd:Option Nat) (m0:Mp) (w0:World) (n:Nat) (Q:QA):Exit→Act→World→Prop:=fun e a w=>∃ E H,Q e E H∧At rd m0 w0 n E H a w
def wpA (P:Program) (n:Nat) (c:Code) (Q:QA) (E:Env) (H:Xh):Prop :=
  ∀ rd m0 w0 a w,At rd m0 w0 n E H a w→c.wpIn (fen rd) 0 P (Qr rd m0 w0 n Q) a w
def wpL (P:Program) (n:Nat) (ops:Array Oper) (l:List Oper) (Q:QA) (E:Env) (H:Xh):Prop :=
  ∀ rd m0 w0 a w,At rd m0 w0 n E H a w→wpListIn (fen rd) 0 P ops (Qr rd m0 w0 n Q) l a w
def Xe0 (K:Env→Xh→Prop) (Q:QA):QA
  | .normal,E,H=>K E H
  | e,E,H=>Q e E H
def XdJ (id:Nat) (Q:QA):QA
  | .exit id',E,H=>if id'=id then Q .normal E H else Q (.exit id') E H
  | e,E,H=>Q e E H
section
variable {P:Program} {n:Nat} {Q:QA} {E:Env} {H:Xh}
theorem X4 {x y:Code} (h:wpA P n x (Xe0 (wpA P n y Q) Q) E H):wpA P n (.seq x y) Q E H:=fun rd m0 w0 a w hat =>
  wpIn_seq (wpIn_mono (h rd m0 w0 a w hat) (by
    rintro e a' w' ⟨E',H',hq,hat'⟩
    cases e with
    | normal=>exact hq rd m0 w0 a' w' hat'
    | exit id=>exact ⟨E',H',hq,hat'⟩
    | goto l=>exact ⟨E',H',hq,hat'⟩
    | ret=>exact ⟨E',H',hq,hat'⟩
    | panic c=>exact ⟨E',H',hq,hat'⟩
    | outgrown=>exact ⟨E',H',hq,hat'⟩))
theorem Xls {x y:Code} (M:Env→Xh→Prop) (h:wpA P n x (Xe0 M Q) E H) (k:∀ E' H',M E' H'→wpA P n y Q E' H'):wpA P n (.seq x y) Q E H:=fun rd m0 w0 a w hat =>
  wpIn_seq (wpIn_mono (h rd m0 w0 a w hat) (by
    rintro e a' w' ⟨E',H',hq,hat'⟩
    cases e with
    | normal=>exact k E' H' hq rd m0 w0 a' w' hat'
    | exit id=>exact ⟨E',H',hq,hat'⟩
    | goto l=>exact ⟨E',H',hq,hat'⟩
    | ret=>exact ⟨E',H',hq,hat'⟩
    | panic c=>exact ⟨E',H',hq,hat'⟩
    | outgrown=>exact ⟨E',H',hq,hat'⟩))
theorem XiM (h:Q .normal E H):wpA P n .skip Q E H:=fun _ _ _ _ _ hat=>wpIn_skip ⟨E,H,h,hat⟩
theorem XmX {id:Nat} (h:Q (.exit id) E H):wpA P n (.exit id) Q E H:=fun _ _ _ _ _ hat=>wpIn_exit ⟨E,H,h,hat⟩
theorem Xlt (h:Q .ret E H):wpA P n .ret Q E H:=fun _ _ _ _ _ hat=>wpIn_ret ⟨E,H,h,hat⟩
theorem XjX {id:Nat} {c:Code} (h:wpA P n c (XdJ id Q) E H):wpA P n (.block id c) Q E H:=fun rd m0 w0 a w hat =>
  wpIn_block (wpIn_mono (h rd m0 w0 a w hat) (by
    rintro e a' w' ⟨E',H',hq,hat'⟩
    cases e with
    | exit id' =>
      by_cases e:id'=id
      · simp only [Exit.inBlock,e,if_true];simp only [XdJ,e,if_true] at hq;exact ⟨E',H',hq,hat'⟩
      · simp only [Exit.inBlock,e,if_false];simp only [XdJ,e,if_false] at hq;exact ⟨E',H',hq,hat'⟩
    | normal=>exact ⟨E',H',hq,hat'⟩
    | goto l=>exact ⟨E',H',hq,hat'⟩
    | ret=>exact ⟨E',H',hq,hat'⟩
    | panic c=>exact ⟨E',H',hq,hat'⟩
    | outgrown=>exact ⟨E',H',hq,hat'⟩))
theorem XiN {c:Operand} {x y:Code} {t:Bool} (hc:E.ev c=some (.v (.bool t))) (h1:t=true→wpA P n x Q E H) (h2:t=false→wpA P n y Q E H):wpA P n (.cond c x y) Q E H:=by
  intro rd m0 w0 a w hat
  have hat0:=hat
  obtain ⟨_,_,m,_,_,hf⟩:=hat0
  have hr:=hf.ev hc
  have he:a.eval c=.bool t:=by generalize a.eval c=v at hr;cases hr;rfl
  refine wpIn_cond_split he (fun ht=>h1 ht rd m0 w0 a w hat) (fun ht=>h2 ht rd m0 w0 a w hat)
theorem XcI {F:Fence} {n:Nat} {P:Program} {c:Code} {Q:Exit→Act→World→Prop} {a:Act} {w:World} (J:Nat→Act→World→Prop) {k:Nat} (h0:J k a w)
    (round:∀ k a w,J k a w→c.wpIn F n P (Exit.then (fun a' w'=>∃ k',k' < k∧J k' a' w') Q) a w):(Code.loop c).wpIn F n P Q a w:=by
  intro b kk cs hro hb hr
  have key:∀ j a w,J j a w→∃ e a' w',Q e a' w'∧ArrivesIn (Machine.fenced P F) P (lone (b.atR a (.code c::.inLoop c::kk)) cs w) b kk cs e a' w':=by
    intro j
    induction j using Nat.strongRecOn with
    | _ j ih =>
      intro a w hI
      obtain ⟨e,a₁,w₁,hq,harr⟩:=round j a w hI b (.inLoop c::kk) cs hro hb hr
      cases e with
      | normal =>
        obtain ⟨k',hlt,hI₁⟩:=hq
        obtain ⟨e₂,a₂,w₂,hq₂,harr₂⟩:=ih k' hlt a₁ w₁ hI₁
        exact ZcX
      | exit id=>exact ⟨_,a₁,w₁,hq,.pass (x:=.inLoop c) rfl (fun _ _=>.inl (by simp)) harr⟩
      | goto l=>exact ⟨_,a₁,w₁,hq,.pass (x:=.inLoop c) rfl (fun _ _=>.inl (by simp)) harr⟩
      | ret=>exact ⟨_,a₁,w₁,hq,.pass (x:=.inLoop c) rfl (fun _ _=>.inl (by simp)) harr⟩
      | panic ch=>exact ⟨_,a₁,w₁,hq,.pass (x:=.inLoop c) rfl (fun _ _=>.inl (by simp)) harr⟩
      | outgrown=>exact ⟨_,a₁,w₁,hq,.pass (x:=.inLoop c) rfl (fun _ _=>.inl (by simp)) harr⟩
  obtain ⟨e,a',w',hq,harr⟩:=key _ a w h0
  exact ⟨e,a',w',hq,.of_steps (.one (fenced_calm hb hr rfl) stepR_loop) harr⟩
theorem Xre {c:Code} (I:Nat→Env→Xh→Prop) {k:Nat} (h0:I k E H)
    (round:∀ k E H,I k E H→wpA P n c (Xe0 (fun E' H'=>∃ k',k' < k∧I k' E' H') Q) E H):wpA P n (.loop c) Q E H:=by
  intro rd m0 w0 a w hat
  refine XcI (fun k a w=>∃ E H,I k E H∧At rd m0 w0 n E H a w) ⟨E,H,h0,hat⟩ ?_
  rintro k a w ⟨E1,H1,hI,hat1⟩
  refine wpIn_mono (round k E1 H1 hI rd m0 w0 a w hat1) ?_
  rintro e a' w' ⟨E',H',hq,hat'⟩
  cases e with
  | normal =>
    obtain ⟨k',hlt,hi⟩:=hq
    exact ⟨k',hlt,E',H',hi,hat'⟩
  | exit id=>exact ⟨E',H',hq,hat'⟩
  | goto l=>exact ⟨E',H',hq,hat'⟩
  | ret=>exact ⟨E',H',hq,hat'⟩
  | panic c=>exact ⟨E',H',hq,hat'⟩
  | outgrown=>exact ⟨E',H',hq,hat'⟩
theorem At.weaken {rd:Option Nat} {m0:Mp} {w0:World} {E':Env} {a:Act} {w:World} (h:At rd m0 w0 n E H a w) (he:∀ t p,E'.get t=some p→E.get t=some p):At rd m0 w0 n E' H a w:=by
  obtain ⟨h1,h2,m,h3,h4,h5⟩:=h
  exact ⟨h1,h2,m,h3,h4,fun t p ht=>h5 t p (he t p ht)⟩
def Env.only (E:Env):List Nat→Env
  | []=>[]
  | t::r=>match E.get t with
    | some p=>(t,p)::Env.only E r
    | none=>Env.only E r
theorem Env.only_get (E:Env):∀ (l:List Nat) t p,(E.only l).get t=some p→E.get t=some p
  | [],t,p,h=>by simp [Env.only,Env.get] at h
  | x::r,t,p,h=>by
    simp only [Env.only] at h
    split at h
    · rename_i q hq
      rw [Env.get_cons] at h
      by_cases e:x=t
      · subst e;rw [if_pos rfl] at h;cases h;exact hq
      · rw [if_neg e] at h;exact Env.only_get E r t p h
    · exact Env.only_get E r t p h
theorem Xev {c:Code} {E':Env} (he:∀ t p,E'.get t=some p→E.get t=some p) (h:wpA P n c Q E' H):wpA P n c Q E H:=fun rd m0 w0 a w hat =>
  h rd m0 w0 a w (hat.weaken he)
theorem XmW {c:Code} {Q':QA} (h:wpA P n c Q E H) (hq:∀ e E H,Q e E H→Q' e E H):wpA P n c Q' E H:=fun rd m0 w0 a w hat =>
  wpIn_mono (h rd m0 w0 a w hat) (by rintro e a' w' ⟨E',H',h1,h2⟩;exact ⟨E',H',hq _ _ _ h1,h2⟩)
theorem Xew {id:Nat} {l:List Oper} (h:wpL P n l.toArray l Q E H):wpA P n (.region id l.toArray false) Q E H:=fun rd m0 w0 a w hat =>
  wpIn_region_lit (h rd m0 w0 a w hat)
theorem Xlr {ops:Array Oper} (h:Q .normal E H):wpL P n ops [] Q E H:=fun _ _ _ _ _ hat=>wpListIn_nil ⟨E,H,h,hat⟩
end
def OpV (P:Program) (o:Oper) (E:Env) (H:Xh) (p:PV):Prop :=
  ∀ m w (ρ:Operand→Value),R m H w→(∀ x q,E.ev x=some q→Rep m w q (ρ x))→∃ v,(execOp ρ o).run P w=.ok (.value v) w∧Rep m w p v
def OpW (P:Program) (o:Oper) (E:Env) (H:Xh) (p:PV) (H':Xh):Prop :=
  ∀ m w (ρ:Operand→Value),R m H w→(∀ x q,E.ev x=some q→Rep m w q (ρ x))→∃ v m' w',(execOp ρ o).run P w=.ok (.value v) w'∧Le m w m' w'∧R m' H' w'∧Rep m' w' p v
def OpS (P:Program) (o:Oper) (E:Env) (H H':Xh):Prop :=
  ∀ m w (ρ:Operand→Value),R m H w→(∀ x q,E.ev x=some q→Rep m w q (ρ x))→∃ m' w',(execOp ρ o).run P w=.ok .skip w'∧Le m w m' w'∧R m' H' w'
section
variable {P:Program} {n:Nat} {Q:QA} {E:Env} {H:Xh} {ops:Array Oper} {rest:List Oper}
theorem XfK {o:Oper} {d:Nat} {p:PV} {H':Xh} (hg:o.guard=none) (hd:o.dst=some d) (hn:d < n) (h:OpW P o E H p H') (k:wpL P n ops rest Q ((d,p)::E) H'):wpL P n ops (o::rest) Q E H:=by
  rintro rd m0 w0 a w ⟨h1,h2,m,h3,h4,h5⟩
  refine wpListIn_plain hg fun K hK=>?_
  obtain ⟨v,m',w',hrun,hle,hR,hr⟩:=h m w a.eval h4 (fun x q hx=>h5.ev hx)
  refine XeA hrun ?_
  rw [hd]
  have:=k rd m0 w0 (a.put (some d) v) w' ⟨by simp [Act.put,h1],h2,m',h3.trans hle,hR,(h5.mono h4.rk hle).put (by omega) hr⟩
  exact hK _ _ this
theorem Xj {o:Oper} {d:Nat} {p:PV} (hg:o.guard=none) (hd:o.dst=some d) (hn:d < n) (h:OpV P o E H p) (k:wpL P n ops rest Q ((d,p)::E) H):wpL P n ops (o::rest) Q E H :=
  XfK hg hd hn (fun m w ρ hR hρ=>let ⟨v,h1,h2⟩:=h m w ρ hR hρ;⟨v,m,w,h1,Le.refl m w,hR,h2⟩) k
theorem Xxi {o:Oper} {H':Xh} (hg:o.guard=none) (hd:o.dst=none) (h:OpS P o E H H') (k:wpL P n ops rest Q E H'):wpL P n ops (o::rest) Q E H:=by
  rintro rd m0 w0 a w ⟨h1,h2,m,h3,h4,h5⟩
  refine wpListIn_plain hg fun K hK=>?_
  obtain ⟨m',w',hrun,hle,hR⟩:=h m w a.eval h4 (fun x q hx=>h5.ev hx)
  refine XpB hrun ?_
  rw [hd]
  exact hK _ _ (k rd m0 w0 a w' ⟨h1,h2,m',h3.trans hle,hR,h5.mono h4.rk hle⟩)
theorem XtG {o og:Oper} {j dj d:Nat} {want b:Bool} (hg:o.guard=some (j,want)) (hj:ops[j]?=some og) (hdj:og.dst=some dj) (hb:E.get dj=some (.v (.bool b))) (hd:o.dst=some d) (hn:d < n)
    (h1:b=want→wpL P n ops ({ o with guard:=none }::rest) Q E H) (h2:b≠want→wpL P n ops rest Q ((d,.v undef)::E) H):wpL P n ops (o::rest) Q E H:=by
  intro rd m0 w0 a w hat
  have hat0:=hat
  obtain ⟨a1,a2,m,a3,a4,a5⟩:=hat
  have hr:=a5 dj _ hb
  have he:a.tmps.getD dj undef=.bool b:=by generalize a.tmps.getD dj undef=v at hr;cases hr;rfl
  have hlt:dj < a.tmps.size:=by
    rcases Nat.lt_or_ge dj a.tmps.size with h | h
    · exact h
    · rw [Array.getD_eq_getD_getElem?,Array.getElem?_eq_none h] at he;simp [undef] at he
  have hy:yielded ops a.tmps j=some b:=by
    have:a.tmps[dj]?=some (.bool b):=by
      rw [Array.getD_eq_getD_getElem?,Array.getElem?_eq_getElem hlt] at he
      rw [Array.getElem?_eq_getElem hlt]
      simpa using he
    simp [yielded,hj,hdj,this]
  by_cases e:b=want
  · have hw:Region.wanted o (yielded ops a.tmps)=true:=by simp [Region.wanted,hg,hy,e]
    have:=h1 e rd m0 w0 a w hat0
    unfold wpListIn at this ⊢
    rw [if_pos (by simp [Region.wanted])] at this
    rw [if_pos hw]
    exact this
  · have hw:Region.wanted o (yielded ops a.tmps)=false:=by simp [Region.wanted,hg,hy,e]
    unfold wpListIn
    rw [hw,if_neg (by simp),hd]
    refine ⟨fun f _=>Xcm rd f,?_⟩
    exact h2 e rd m0 w0 _ w ⟨by simp [Act.put,a1],a2,m,a3,a4,a5.put (by omega) (.v _ rfl)⟩
end
def XeK (m:Mp) (w:World) (ps:List PV) (vs:Array Value):Prop:=vs.size=ps.length∧∀ (j:Nat) (c:PV),ps[j]?=some c→Rep m w c (vs.getD j undef)
def AC (P:Program) (f:FuncId) (args:List PV) (H:Xh) (Q:PV→Xh→Prop):Prop :=
  (∃ fn,P.funcs[f]?=some fn∧(fn.name == "runtime.NumGoroutine")=false∧fn.body.isNone=false) ∧
  ∀ m w vals,R m H w→XeK m w args vals→Calls P f vals w fun e w'=>∃ v p H' m',e=.returned v∧Q p H'∧Rep m' w' p v∧R m' H' w'∧Le m w m' w'
theorem AC.mono {P:Program} {f:FuncId} {args:List PV} {H:Xh} {Q Q':PV→Xh→Prop} (h:AC P f args H Q) (hq:∀ p H',Q p H'→Q' p H'):AC P f args H Q' :=
  ⟨h.1,fun m w vals h1 h2=>(h.2 m w vals h1 h2).mono fun _ _ ⟨v,p,H',m',a,b,c⟩=>⟨v,p,H',m',a,hq _ _ b,c⟩⟩
def evs (E:Env):List Operand→Option (List PV)
  | []=>some []
  | x::r=>match E.ev x with
    | some p=>match evs E r with
      | some ps=>some (p::ps)
      | none=>none
    | none=>none
theorem Xdb {m:Mp} {w:World} {E:Env} {ρ:Operand→Value} (hρ:∀ x q,E.ev x=some q→Rep m w q (ρ x)):∀ (l:List Operand) (ps:List PV),evs E l=some ps →
    ps.length=l.length∧∀ (j:Nat) (c:PV),ps[j]?=some c→Rep m w c ((l.map ρ).getD j undef)
  | [],ps,h=>by simp [evs] at h;subst h;simp
  | x::r,ps,h=>by
    simp only [evs] at h
    split at h
    · rename_i p hp
      split at h
      · rename_i qs hq
        cases h
        obtain ⟨h1,h2⟩:=Xdb hρ r qs hq
        refine ⟨by simp [h1],fun j c hj=>?_⟩
        cases j with
        | zero=>simp at hj;subst hj;simpa using hρ x p hp
        | succ j=>simpa using h2 j c (by simpa using hj)
      · cases h
    · cases h
theorem XeK.append {m:Mp} {w:World} {ps qs:List PV} {vs us:Array Value} (h:XeK m w ps vs) (k:XeK m w qs us):XeK m w (ps++qs) (vs++us):=by
  refine ⟨by simp [h.1,k.1],fun j c hj=>?_⟩
  rcases Nat.lt_or_ge j ps.length with hlt | hge
  · rw [List.getElem?_append_left hlt] at hj
    have:=h.2 j c hj
    rwa [Array.getD_eq_getD_getElem?,Array.getElem?_append_left (by rw [h.1];exact hlt),← Array.getD_eq_getD_getElem?]
  · rw [List.getElem?_append_right hge] at hj
    have:=k.2 _ c hj
    rwa [Array.getD_eq_getD_getElem?,Array.getElem?_append_right (by rw [h.1];exact hge),h.1,← Array.getD_eq_getD_getElem?]
section
variable {P:Program} {n:Nat} {Q:QA} {E:Env} {H:Xh} {ops:Array Oper} {rest:List Oper}
theorem XjG {o:Oper} {c:Call} {x:Operand} {g:FuncId} {cap:List PV} {m:Mp} {w:World} {ρ:Operand→Value} (ho:o.op=.call c) (hc:c.callee=.value x) (hx:Rep m w (.fn (.func g) cap) (ρ x))
    (hf:∃ fn,P.funcs[g]?=some fn∧(fn.name == "runtime.NumGoroutine")=false∧fn.body.isNone=false) :
    ∃ vs,XeK m w cap vs∧(execOp ρ o).run P w=.ok (.enter g (c.args.map ρ++vs)) w:=by
  obtain ⟨fn,hf1,hf2,hf3⟩:=hf
  generalize hv:ρ x=v at hx
  cases hx with
  | fn vs hl hh =>
    refine ⟨vs,⟨hl,hh⟩,?_⟩
    have h2:¬ fn.name= "runtime.NumGoroutine":=by simpa using hf2
    have h3:¬ fn.body=none:=fun e=>by rw [e] at hf3;simp at hf3
    simp [execOp,ho,resolve,hc,hv,Deferred.ofValue,invoke,callFunc,hf1,h2,h3]
theorem XmT {o:Oper} {c:Call} {x:Operand} {g:FuncId} {cap args:List PV} {QC:PV→Xh→Prop} (hg:o.guard=none) (ho:o.op=.call c) (hc:c.callee=.value x) (hx:E.ev x=some (.fn (.func g) cap))
    (ha:evs E c.args.toList=some args) (h:AC P g (args++cap) H QC)
    (hd:match o.dst with | some d=>d < n | none=>True)
    (k:∀ p H',QC p H'→wpL P n ops rest Q (match o.dst with | some d=>(d,p)::E | none=>E) H'):wpL P n ops (o::rest) Q E H:=by
  rintro rd m0 w0 a w ⟨h1,h2,m,h3,h4,h5⟩
  refine wpListIn_plain hg fun K hK=>?_
  obtain ⟨vs,hvs,hrun⟩:=XjG (P:=P) (m:=m) (w:=w) (ρ:=a.eval) ho hc (h5.ev hx) h.1
  refine Xi0 hrun ?_
  have hargs:XeK m w args (c.args.map a.eval):=by
    obtain ⟨e1,e2⟩:=Xdb (m:=m) (w:=w) (ρ:=a.eval) (fun x q hx=>h5.ev hx) c.args.toList args ha
    refine ⟨by simp [e1],fun j q hj=>?_⟩
    have:=e2 j q hj
    simpa [Array.getD_eq_getD_getElem?,List.getD_eq_getElem?_getD] using this
  refine (h.2 m w _ h4 (hargs.append hvs)).mono ?_
  rintro e w' ⟨v,p,H',m',rfl,hq,hr,hR,hle⟩
  refine ⟨v,rfl,hK _ _ ?_⟩
  cases hdst:o.dst with
  | none =>
    have:=k p H' hq
    simp only [hdst] at this
    exact this rd m0 w0 a w' ⟨h1,h2,m',h3.trans hle,hR,h5.mono h4.rk hle⟩
  | some d =>
    have:=k p H' hq
    simp only [hdst] at this
    have hd':d < a.tmps.size:=by rw [hdst] at hd;rw [h1];exact hd
    exact this rd m0 w0 (a.put (some d) v) w' ⟨by simp [Act.put,h1],h2,m',h3.trans hle,hR,(h5.mono h4.rk hle).put hd' hr⟩
end
def XbG:Nat→List PV→Env
  | _,[]=>[]
  | k,p::r=>(k,p)::XbG (k+1) r
theorem Xce:∀ (ps:List PV) (k t:Nat) (p:PV),(XbG k ps).get t=some p→k≤t∧ps[t - k]?=some p
  | [],k,t,p,h=>by simp [XbG,Env.get] at h
  | q::r,k,t,p,h=>by
    simp only [XbG] at h
    rw [Env.get_cons] at h
    by_cases e:k=t
    · subst e;rw [if_pos rfl] at h;cases h;simp
    · rw [if_neg e] at h
      obtain ⟨h1,h2⟩:=Xce r (k+1) t p h
      refine ⟨by omega,?_⟩
      rw [show t - k=(t - (k+1))+1 from by omega]
      simpa using h2
def Xai:Nat→List PV→Option (List PV)
  | 0,_=>some []
  | _+1,[]=>none
  | k+1,c::r=>match Xai k r with
    | some l=>some (c::l)
    | none=>none
theorem Xaq:∀ (k:Nat) (l r:List PV),Xai k l=some r↔(k≤l.length∧r=l.take k)
  | 0,l,r=>by simp [Xai,eq_comm]
  | k+1,[],r=>by simp [Xai]
  | k+1,c::l,r=>by
    have ih:=Xaq k l
    simp only [Xai]
    cases h:Xai k l with
    | none =>
      have hn:¬ k≤l.length:=fun hk=>by
        have:=(ih (l.take k)).2 ⟨hk,rfl⟩
        rw [h] at this;cases this
      simp [hn]
    | some x =>
      obtain ⟨h1,h2⟩:=(ih x).1 h
      simp [h1,h2,eq_comm]
def XdC (H:Xh) (p:PV) (k:Nat):Option (List PV) :=
  match p with
  | .ptr id off=>match H[id]? with
    | some (some B)=>Xai k (B.cells.drop off)
    | _=>none
  | .ept cells off=>Xai k (cells.drop off)
  | _=>none
theorem Addr.add_mk (b o k:Nat):(⟨b,o,none⟩:Addr).add k=⟨b,o+k,none⟩:=Addr.add_lit b o k
theorem XcM {m:Mp} {H:Xh} {w:World} (h:R m H w) {p:PV} {k:Nat} {cs:List PV} {v:Value} (hr:Rep m w p v) (hc:XdC H p k=some cs) :
    cs.length=k∧∃ b o,v=.pointer (some ⟨b,o,none⟩)∧∀ (j:Nat) (c:PV),cs[j]?=some c→∃ u,w.cell? ⟨b,o+j,none⟩=some u∧Rep m w c u:=by
  cases hr with
  | @ptr id off b lim hm =>
    simp only [XdC] at hc
    split at hc
    · rename_i B hB
      obtain ⟨h1,rfl⟩:=(Xaq _ _ _).1 hc
      refine ⟨by simp only [List.length_take];omega,b,0+off,rfl,fun j c hj=>?_⟩
      obtain ⟨_,⟨cur,c1,c2,c3,c4⟩,_⟩:=h.blk id B b 0 lim hB hm
      rw [List.getElem?_take] at hj
      split at hj
      · rw [List.getElem?_drop] at hj
        obtain ⟨u,hu,hru,_⟩:=c4 (off+j) c hj
        exact ZcY
      · cases hj
    · cases hc
  | @ept cells off b o f hro hcell hh =>
    simp only [XdC] at hc
    obtain ⟨h1,rfl⟩:=(Xaq _ _ _).1 hc
    refine ⟨by simp only [List.length_take];omega,b,o+off,rfl,fun j c hj=>?_⟩
    rw [List.getElem?_take] at hj
    split at hj
    · rw [List.getElem?_drop] at hj
      exact ⟨f (off+j),by rw [Nat.add_assoc];exact hcell _ c hj,hh _ c hj⟩
    · cases hj
  | _=>simp [XdC] at hc
def Xdl:TypeDesc→Bool
  | .struct _=>true
  | .array _ _=>true
  | _=>false
theorem Xd9 {P:Program} {t:TypeId} {d:TypeDesc} (h:P.underlying t=some d) (w:World):(isAgg t).run P w=.ok (Xdl d) w:=by
  unfold isAgg
  simp only [Sem.run_bind,run_underlying h,Result.andThen_ok]
  cases d <;> rfl
theorem Xaj {P:Program} {t:TypeId} {i:TypeInfo} (h:P.info? t=some i) (w:World):(sizeOf t).run P w=.ok i.size w:=by
  simp [sizeOf,typeInfo,h]
def Xd2 (d:TypeDesc) (size:Nat) (H:Xh) (p:PV):Option PV :=
  match Xdl d with
  | true=>match XdC H p size with
    | some cs=>some (.agg cs)
    | none=>none
  | false=>match XdC H p 1 with
    | some [c]=>some c
    | _=>none
theorem XcL {P:Program} {m:Mp} {H:Xh} {w:World} (h:R m H w) {t:TypeId} {d:TypeDesc} {i:TypeInfo} (hd:P.underlying t=some d) (hi:P.info? t=some i) {p q:PV} {v:Value}
    (hr:Rep m w p v) (hl:Xd2 d i.size H p=some q):∃ a u,v=.pointer (some a)∧(loadVar t a).run P w=.ok u w∧Rep m w q u:=by
  unfold Xd2 at hl
  cases ha:Xdl d with
  | true =>
    rw [ha] at hl
    simp only at hl
    split at hl
    · rename_i cs hcs
      cases hl
      obtain ⟨h1,b,o,rfl,h2⟩:=XcM h hr hcs
      have hx:∃ us:List Value,us.length=cs.length∧∀ (j:Nat) (u:Value),us[j]?=some u→w.cell? ⟨b,o+j,none⟩=some u∧∃ c,cs[j]?=some c∧Rep m w c u:=by
        refine ⟨(List.range cs.length).map fun j=>(w.cell? ⟨b,o+j,none⟩).getD undef,by simp,fun j u hu=>?_⟩
        rw [List.getElem?_map] at hu
        rcases Nat.lt_or_ge j cs.length with hlt | hge
        · rw [List.getElem?_range hlt] at hu
          simp only [Option.map_some,Option.some.injEq] at hu
          obtain ⟨u',hu',hru⟩:=h2 j _ (List.getElem?_eq_getElem hlt)
          rw [hu'] at hu
          simp only [Option.getD_some] at hu
          subst hu
          exact ⟨hu',_,List.getElem?_eq_getElem hlt,hru⟩
        · rw [List.getElem?_eq_none (by simpa using hge)] at hu;cases hu
      obtain ⟨us,hus,hu⟩:=hx
      refine ⟨⟨b,o,none⟩,.agg us.toArray,rfl,?_,?_⟩
      · have:=run_loadCells_list (P:=P) w ⟨b,o,none⟩ us (fun j v hv=>by rw [Addr.add_mk];exact (hu j v hv).1)
        rw [hus,h1] at this
        unfold loadVar
        simp only [Sem.run_bind,Xd9 hd,ha,Result.andThen_ok,if_true,Xaj hi,this,Sem.run_pure]
      · refine .agg us.toArray (by simp [hus]) (fun j c hj=>?_)
        have hlt:j < us.length:=by rw [hus];exact (List.getElem?_eq_some_iff.1 hj).1
        obtain ⟨_,c',hc',hrc⟩:=hu j _ (List.getElem?_eq_getElem hlt)
        rw [hj] at hc';cases hc'
        simpa [Array.getD_eq_getD_getElem?,hlt] using hrc
    · cases hl
  | false =>
    rw [ha] at hl
    simp only at hl
    split at hl
    · rename_i c hc
      cases hl
      obtain ⟨h1,b,o,rfl,h2⟩:=XcM h hr hc
      obtain ⟨u,hu,hru⟩:=h2 0 _ rfl
      refine ⟨⟨b,o,none⟩,u,rfl,?_,hru⟩
      unfold loadVar
      have hu':w.cell? ⟨b,o,none⟩=some u:=by simpa using hu
      simp only [Sem.run_bind,Xd9 hd,ha,Result.andThen_ok,Bool.false_eq_true,if_false,run_load,hu']
    · cases hl
end Go.Th
namespace Go.Th
open Go.RowKit
class HasU (P:Program) (t:TypeId) (d:outParam TypeDesc):Prop where
  u:P.underlying t=some d
class HasI (P:Program) (t:TypeId) (size bytes:outParam Nat) (z:outParam (List Value)):Prop where
  i:∃ i zv,P.info? t=some i∧i.size=size∧i.bytes=bytes∧i.zero=some zv∧zv.cells.toList=z
class HasB (P:Program) (t:TypeId) (places:outParam (List (Nat × Nat))):Prop where
  b:∃ fields,P.underlying t=some (.struct fields)∧fields.toList.map (fun f=>(f.offset,(P.info? f.type).map (·.size)))=places.map (fun x=>(x.1,some x.2))
theorem Xdi {P:Program}:∀ (fs:List Field) (places:List (Nat × Nat)),fs.map (fun f=>(f.offset,(P.info? f.type).map (·.size)))=places.map (fun x=>(x.1,some x.2)) →
    ∀ w,(fs.mapM fun f=>(do pure (f.offset,← sizeOf f.type):Sem (Nat × Nat))).run P w=.ok places w
  | [],[],_,w=>by simp
  | [],_::_,h,_=>by simp at h
  | _::_,[],h,_=>by simp at h
  | f::fs,x::places,h,w=>by
    simp only [List.map_cons,List.cons.injEq,Prod.mk.injEq] at h
    obtain ⟨⟨h1,h2⟩,h3⟩:=h
    obtain ⟨i,hi,hs⟩:=Option.map_eq_some_iff.1 h2
    have hone:(do pure (f.offset,← sizeOf f.type):Sem (Nat × Nat)).run P w=.ok x w:=by
      simp [sizeOf,typeInfo,hi,h1,hs]
    rw [List.mapM_cons]
    simp only [Sem.run_bind] at hone ⊢
    rw [hone]
    simp only [Result.andThen_ok]
    rw [Xdi fs places h3 w]
    rfl
theorem HasB.run {P:Program} {t:TypeId} {places:List (Nat × Nat)} [hb:HasB P t places]:∃ fields,P.underlying t=some (.struct fields)∧∀ w,(fields.mapM fun f=>(do pure (f.offset,← sizeOf f.type):Sem (Nat × Nat))).run P w=.ok places.toArray w:=by
  obtain ⟨fields,h1,h2⟩:=hb.b
  refine ⟨fields,h1,fun w=>?_⟩
  rw [Array.mapM_eq_mapM_toList]
  simp only [Sem.run_map,Xdi _ _ h2 w,Result.andThen_ok]
theorem HasB.spot {P:Program} {t:TypeId} {places:List (Nat × Nat)} [hb:HasB P t places] {k off sz:Nat} (hk:places[k]?=some (off,sz)):∃ fields fl i,P.underlying t=some (.struct fields)∧fields[k]?=some fl∧fl.offset=off∧P.info? fl.type=some i∧i.size=sz:=by
  obtain ⟨fields,h1,h2⟩:=hb.b
  have:=congrArg (·[k]?) h2
  simp only [List.getElem?_map,hk,Option.map_some] at this
  obtain ⟨fl,hf,he⟩:=Option.map_eq_some_iff.1 this
  simp only [Prod.mk.injEq] at he
  obtain ⟨i,hi,hs⟩:=Option.map_eq_some_iff.1 he.2
  exact ⟨fields,fl,i,h1,by simpa using hf,he.1,hi,hs⟩
def cellsOf:PV→List PV
  | .agg cs=>cs
  | p=>[p]
def XV:PV→Bool
  | .v x=>x.oneCell'
  | .agg _=>false
  | .tup _=>false
  | _=>true
theorem Xbx {m:Mp} {w:World} {p:PV} {v:Value} (h:Rep m w p v) (hp:XV p=true):v.oneCell'=true:=by
  cases h <;> first | rfl | (simp [XV] at hp;done) | (simpa [XV] using hp)
def CR (m:Mp) (w:World) (ps:List PV) (vs:List Value):Prop:=vs.length=ps.length∧∀ (j:Nat) (c:PV),ps[j]?=some c→∃ u,vs[j]?=some u∧Rep m w c u
theorem Xbp {m:Mp} {w:World} {p:PV} {v:Value} (h:Rep m w p v):CR m w (cellsOf p) v.cells.toList:=by
  cases h with
  | agg vs hl hh =>
    refine ⟨by simp [cellsOf,Value.cells,hl],fun j c hj=>?_⟩
    have hlt:j < vs.size:=by rw [hl];exact (List.getElem?_eq_some_iff.1 hj).1
    exact ZcZ
  | v _ hx =>
    have e:v.cells=#[v]:=by cases v <;> first | rfl | (simp [Xe3] at hx)
    refine ⟨by simp [cellsOf,e],fun j c hj=>?_⟩
    cases j with
    | zero=>simp [cellsOf] at hj;subst hj;exact ⟨v,by simp [e],.v v hx⟩
    | succ j=>simp [cellsOf] at hj
  | ptr hb=>exact ⟨rfl,fun j c hj=>by cases j with | zero=>simp [cellsOf] at hj;subst hj;exact ⟨_,rfl,.ptr hb⟩ | succ j=>simp [cellsOf] at hj⟩
  | mp hb=>exact ⟨rfl,fun j c hj=>by cases j with | zero=>simp [cellsOf] at hj;subst hj;exact ⟨_,rfl,.mp hb⟩ | succ j=>simp [cellsOf] at hj⟩
  | it hb=>exact ⟨rfl,fun j c hj=>by cases j with | zero=>simp [cellsOf] at hj;subst hj;exact ⟨_,rfl,.it hb⟩ | succ j=>simp [cellsOf] at hj⟩
  | yld hb=>exact ⟨rfl,fun j c hj=>by cases j with | zero=>simp [cellsOf] at hj;subst hj;exact ⟨_,rfl,.yld hb⟩ | succ j=>simp [cellsOf] at hj⟩
  | ept f a b d=>exact ⟨rfl,fun j c hj=>by cases j with | zero=>simp [cellsOf] at hj;subst hj;exact ⟨_,rfl,.ept f a b d⟩ | succ j=>simp [cellsOf] at hj⟩
  | sl a b c d=>exact ⟨rfl,fun j c hj=>by cases j with | zero=>simp [cellsOf] at hj;subst hj;exact ⟨_,rfl,.sl a b ‹_› d⟩ | succ j=>simp [cellsOf] at hj⟩
  | sl0 a=>exact ⟨rfl,fun j c hj=>by cases j with | zero=>simp [cellsOf] at hj;subst hj;exact ⟨_,rfl,.sl0 a⟩ | succ j=>simp [cellsOf] at hj⟩
  | tr f a b c d e g=>exact ⟨rfl,fun j c hj=>by cases j with | zero=>simp [cellsOf] at hj;subst hj;exact ⟨_,rfl,.tr f a b ‹_› d e g⟩ | succ j=>simp [cellsOf] at hj⟩
  | tr0 a b=>exact ⟨rfl,fun j c hj=>by cases j with | zero=>simp [cellsOf] at hj;subst hj;exact ⟨_,rfl,.tr0 a b⟩ | succ j=>simp [cellsOf] at hj⟩
  | trn=>exact ⟨rfl,fun j c hj=>by cases j with | zero=>simp [cellsOf] at hj;subst hj;exact ⟨_,rfl,.trn⟩ | succ j=>simp [cellsOf] at hj⟩
  | fn vs hl hh=>exact ⟨rfl,fun j c hj=>by cases j with | zero=>simp [cellsOf] at hj;subst hj;exact ⟨_,rfl,.fn vs hl hh⟩ | succ j=>simp [cellsOf] at hj⟩
  | tup vs hl hh=>exact ⟨rfl,fun j c hj=>by cases j with | zero=>simp [cellsOf] at hj;subst hj;exact ⟨_,rfl,.tup vs hl hh⟩ | succ j=>simp [cellsOf] at hj⟩
def X6:List PV→Nat→List PV→List PV
  | l,_,[]=>l
  | l,off,c::cs=>X6 (l.set off c) (off+1) cs
theorem X5:∀ (cs l:List PV) (off:Nat),(X6 l off cs).length=l.length
  | [],l,off=>rfl
  | c::cs,l,off=>by simp [X6,X5 cs]
theorem XbM:∀ (cs l:List PV) (off j:Nat),off+cs.length≤l.length→(X6 l off cs)[j]?=if off≤j∧j < off+cs.length then cs[j - off]? else l[j]?
  | [],l,off,j,_=>by
    simp only [X6,List.length_nil,Nat.add_zero]
    rw [if_neg (by omega)]
  | c::cs,l,off,j,h=>by
    simp only [List.length_cons] at h
    simp only [X6]
    rw [XbM cs (l.set off c) (off+1) j (by simp;omega)]
    simp only [List.length_cons]
    by_cases e:j=off
    · subst e
      rw [if_neg (by omega),if_pos (by omega)]
      simp only [Nat.sub_self,List.getElem?_cons_zero]
      rw [List.getElem?_set_self (by omega)]
    · by_cases e2:off+1≤j∧j < off+1+cs.length
      · rw [if_pos e2,if_pos (by omega)]
        rw [show j - off=(j - (off+1))+1 from by omega]
        simp
      · rw [if_neg e2,if_neg (by omega),List.getElem?_set_ne (by omega)]
section
variable {P:Program} {E:Env} {H:Xh} {o:Oper} {t s e:TypeId} {d:TypeDesc} {size bytes sz:Nat} {z:List Value} {fields:Array Field} {k:IntKind}
theorem OpV.same {p q:PV} (h:OpV P o E H p) (e:p=q):OpV P o E H q:=e ▸ h
theorem XA {m:Mp} {w:World} {x v:Value} (h:Rep m w (.v x) v):v=x:=by cases h;rfl
theorem XaJ {x:Operand} {p:PV} (ho:o.op=.move x) (hx:E.ev x=some p):OpV P o E H p:=fun m w ρ _ hρ =>
  ⟨ρ x,by simp [execOp,ho],hρ x p hx⟩
theorem Xas {x:Operand} {p:PV} (ho:o.op=.assign x) (hx:E.ev x=some p):OpV P o E H p:=fun m w ρ _ hρ =>
  ⟨ρ x,by simp [execOp,ho],hρ x p hx⟩
theorem Xbe {c a b:Operand} {t:Bool} {p:PV} (ho:o.op=.pick c a b) (hc:E.ev c=some (.v (.bool t))) (ht:t=true) (ha:E.ev a=some p):OpV P o E H p:=fun m w ρ _ hρ=>by
  have h1:=XA (hρ c _ hc)
  refine ⟨ρ a,by simp [execOp,ho,h1,asBool,ht],hρ a p ha⟩
theorem Xbf {c a b:Operand} {t:Bool} {p:PV} (ho:o.op=.pick c a b) (hc:E.ev c=some (.v (.bool t))) (ht:t=false) (hb:E.ev b=some p):OpV P o E H p:=fun m w ρ _ hρ=>by
  have h1:=XA (hρ c _ hc)
  refine ⟨ρ b,by simp [execOp,ho,h1,asBool,ht],hρ b p hb⟩
def toV:PV→Option Value
  | .v x=>some x
  | .agg cs=>match cs.mapM (fun | .v x=>some x | _=>none) with
    | some xs=>some (.agg xs.toArray)
    | none=>none
  | _=>none
theorem Xkp:∀ (cs:List PV) (xs:List Value),cs.mapM (fun (p:PV)=>match p with | .v x=>some x | _=>none)=some xs→cs=xs.map PV.v
  | [],xs,h=>by simp at h;subst h;rfl
  | c::cs,xs,h=>by
    rw [List.mapM_cons] at h
    cases c with
    | v x =>
      simp only [Option.bind_eq_bind,Option.bind_some,Option.bind_eq_some_iff,Option.pure_def,Option.some.injEq] at h
      obtain ⟨ys,hy,rfl⟩:=h
      rw [Xkp cs ys hy];rfl
    | _=>simp at h
theorem XgR {m:Mp} {w:World} {p:PV} {x v:Value} (h:Rep m w p v) (hp:toV p=some x):v=x:=by
  cases p with
  | v y=>simp only [toV] at hp;cases hp;exact XA h
  | agg cs =>
    simp only [toV] at hp
    split at hp
    · rename_i xs hx
      cases hp
      have e:=Xkp cs xs hx
      subst e
      cases h with
      | agg vs hl hh =>
        congr 1
        apply Array.ext
        · simpa using hl
        · intro i h1 h2
          simp only [List.size_toArray] at h2
          have:=hh i (.v xs[i]) (by simp [h2])
          have:=XA this
          simpa [Array.getD_eq_getD_getElem?,h1] using this
    · cases hp
  | _=>simp [toV] at hp
theorem Xab {op:BinOp} {t ty:TypeId} {x y:Operand} {px py:PV} {vx vy r:Value} (ho:o.op=.binOp op t x y ty) (hx:E.ev x=some px) (hy:E.ev y=some py) (hvx:toV px=some vx) (hvy:toV py=some vy)
    (h:∀ w,(do eqGuard op t x y vx vy;binOp op t vx vy:Sem Value).run P w=.ok r w) (hr:Xe3 r=true):OpV P o E H (.v r):=fun m w ρ _ hρ=>by
  have h1:=XgR (hρ x _ hx) hvx
  have h2:=XgR (hρ y _ hy) hvy
  refine ⟨r,?_,.v r hr⟩
  have:=h w
  simp only [execOp,ho,h1,h2,Sem.run_bind] at this ⊢
  rw [this]
  rfl
theorem XP {op:BinOp} {t ty:TypeId} {x y:Operand} {k:IntKind} {a b:Int} {r:Bool} (ho:o.op=.binOp op t x y ty) (hx:E.ev x=some (.v (.int k a))) (hy:E.ev y=some (.v (.int k b)))
    (hr:(match op with | .eql=>some (decide (a=b)) | .neq=>some (!decide (a=b)) | .lss=>some (decide (a < b)) | .leq=>some (decide (a≤b)) | .gtr=>some (decide (b < a)) | .geq=>some (decide (b≤a)) | _=>none)=some r) :
    OpV P o E H (.v (.bool r)):=Xab ho hx hy rfl rfl (fun w=>by
  cases op <;> simp only at hr <;> cases hr
  · simp [eqGuard_at_int,binOp_eql];rfl
  · simp [eqGuard_at_int,binOp_neq];rfl
  · simp [eqGuard_at_int,binOp_lss]
  · simp [eqGuard_at_int,binOp_leq]
  · simp [eqGuard_at_int,binOp_gtr]
  · simp [eqGuard_at_int,binOp_geq]) rfl
theorem XhN {t ty:TypeId} {x y:Operand} {a b:Int} (ho:o.op=.binOp .add t x y ty) (hx:E.ev x=some (.v (.int .i64 a))) (hy:E.ev y=some (.v (.int .i64 b)))
    (h:-9223372036854775808≤a+b∧a+b≤9223372036854775807):OpV P o E H (.v (.int .i64 (a+b))):=Xab ho hx hy rfl rfl (fun w=>by
  have e:IntKind.i64.wrap (a+b)=a+b:=by rw [IntKind.wrap_i64];omega
  simp [eqGuard_at_int,binOp_add,Op.intArith,e]) rfl
theorem Xfd {t ty:TypeId} {x y:Operand} {a b:Int} (ho:o.op=.binOp .sub t x y ty) (hx:E.ev x=some (.v (.int .i64 a))) (hy:E.ev y=some (.v (.int .i64 b)))
    (h:-9223372036854775808≤a - b∧a - b≤9223372036854775807):OpV P o E H (.v (.int .i64 (a - b))):=Xab ho hx hy rfl rfl (fun w=>by
  have e:IntKind.i64.wrap (a - b)=a - b:=by rw [IntKind.wrap_i64];omega
  simp [eqGuard_at_int,binOp_sub,Op.intArith,e]) rfl
theorem XwY [hu:HasU P t .bool] {ty:TypeId} {x y:Operand} {a b:Bool} (ho:o.op=.binOp .neq t x y ty) (hx:E.ev x=some (.v (.bool a))) (hy:E.ev y=some (.v (.bool b))) :
    OpV P o E H (.v (.bool (!(a == b)))):=Xab ho hx hy rfl rfl (fun w=>by
  have h:∀ n,(Op.equalIn (n+1) t (.bool a) (.bool b)).run P w=.ok (a == b) w:=fun n=>run_equalIn_bool' w n t a b hu.u
  simp [eqGuard_at_bool,binOp,Op.equal,Op.maxDepth,h 9999]) rfl
theorem Xgd [hu:HasU P t (.pointer e)] {op:BinOp} {ty:TypeId} {x:Operand} {p:PV} {r:Bool} (ho:o.op=.binOp op t x (.const (.pointer none)) ty) (hx:E.ev x=some p)
    (hr:(match op,p with | .eql,.ptr _ _=>some false | .eql,.ept _ _=>some false | .eql,.v (.pointer none)=>some true | .neq,.ptr _ _=>some true | .neq,.ept _ _=>some true | .neq,.v (.pointer none)=>some false | _,_=>none)=some r) :
    OpV P o E H (.v (.bool r)):=fun m w ρ _ hρ=>by
  have h1:=hρ x p hx
  have h2:=XA (hρ (.const (.pointer none)) _ rfl)
  refine ⟨.bool r,?_,.v _ rfl⟩
  have key:∃ q,ρ x=.pointer q∧((op=.eql∧r=q.isNone)∨(op=.neq∧r=!q.isNone)):=by
    generalize ρ x=v at h1
    cases h1 with
    | ptr hb=>cases op <;> simp only at hr <;> cases hr <;> exact ⟨_,rfl,by simp⟩
    | ept f a b c=>cases op <;> simp only at hr <;> cases hr <;> exact ⟨_,rfl,by simp⟩
    | v _ hy =>
      cases v with
      | pointer q =>
        cases q with
        | none=>cases op <;> simp only at hr <;> cases hr <;> exact ⟨_,rfl,by simp⟩
        | some q=>cases op <;> simp at hr
      | _=>cases op <;> simp at hr
    | _=>cases op <;> simp at hr
  obtain ⟨q,e1,he⟩:=key
  have hp:P.underlying t=some (.pointer (P.pointee t)):=by simp [Program.pointee,hu.u]
  rcases he with ⟨rfl,rfl⟩ | ⟨rfl,rfl⟩
  · simp [execOp,ho,e1,h2,eqGuard_at_pointer,run_eql_pointer_nil _ _ _ hp]
  · simp [execOp,ho,e1,h2,eqGuard_at_pointer,run_neq_pointer_nil _ _ _ hp]
theorem Xet {t:TypeId} {x:Operand} {b:Bool} (ho:o.op=.unOp .not t x) (hx:E.ev x=some (.v (.bool b))):OpV P o E H (.v (.bool (!b))):=fun m w ρ _ hρ=>by
  have h1:=XA (hρ x _ hx)
  exact ⟨.bool (!b),by simp [execOp,ho,h1,Op.unary],.v _ rfl⟩
def Xb3:PV→Option Nat
  | .sl _ _ len _=>some len
  | .tr _ len _=>some len
  | .v (.slice none n _)=>some n
  | _=>none
theorem Xi4 {m:Mp} {w:World} {p:PV} {n:Nat} {v:Value} (h:Rep m w p v) (hl:Xb3 p=some n):∃ a c,v=.slice a n c:=by
  cases h with
  | sl _ _ _ _=>simp only [Xb3] at hl;cases hl;exact ⟨_,_,rfl⟩
  | sl0 a=>simp only [Xb3] at hl;cases hl;exact ⟨_,_,rfl⟩
  | tr f _ _ _ _ _ _=>simp only [Xb3] at hl;cases hl;exact ⟨_,_,rfl⟩
  | tr0 a _=>simp only [Xb3] at hl;cases hl;exact ⟨_,_,rfl⟩
  | trn=>simp only [Xb3] at hl;cases hl;exact ⟨_,_,rfl⟩
  | v _ hx=>cases v with
    | slice a k c=>cases a with
      | none=>simp only [Xb3] at hl;cases hl;exact ⟨_,_,rfl⟩
      | some a=>simp [Xb3] at hl
    | _=>simp [Xb3] at hl
  | _=>simp [Xb3] at hl
theorem XdS [hu:HasU P t (.slice e)] {x:Operand} {p:PV} {n:Nat} (ho:o.op=.call { callee:=.builtin .len,args:=#[x],argTypes:=#[t] }) (hx:E.ev x=some p) (hl:Xb3 p=some n) :
    OpV P o E H (.v (.int .i64 (n:Int))):=fun m w ρ _ hρ=>by
  obtain ⟨a,c,h⟩:=Xi4 (hρ x p hx) hl
  refine ⟨.int .i64 n,?_,.v _ rfl⟩
  simp [execOp,ho,resolve,invoke,builtin,h,Builtin.len_,run_underlying hu.u,goInt]
theorem XaS [hu:HasU P t d] [hi:HasI P t size bytes z] {x:Operand} {p q:PV} (ho:o.op=.load t x) (hx:E.ev x=some p) (hl:Xd2 d size H p=some q):OpV P o E H q:=fun m w ρ hR hρ=>by
  obtain ⟨i,zv,h1,rfl,_⟩:=hi.i
  obtain ⟨a,u,e,hrun,hr⟩:=XcL hR hu.u h1 (hρ x p hx) hl
  refine ⟨u,?_,hr⟩
  simp [execOp,ho,e,Instr.loadAt,Instr.sureAddr,hrun]
def Xdf (p:PV) (k:Nat):Option PV :=
  match p with
  | .ptr id off=>some (.ptr id (off+k))
  | .ept cells off=>some (.ept cells (off+k))
  | _=>none
theorem Xez {m:Mp} {w:World} {p q:PV} {k:Nat} {v:Value} (h:Rep m w p v) (hs:Xdf p k=some q):∃ a,v=.pointer (some a)∧Rep m w q (.pointer (some (a.add k))):=by
  cases h with
  | ptr hb=>simp only [Xdf] at hs;cases hs;exact ⟨_,rfl,by rw [Addr.add_mk,Nat.add_assoc];exact .ptr hb⟩
  | ept f a b c=>simp only [Xdf] at hs;cases hs;exact ⟨_,rfl,by rw [Addr.add_mk,Nat.add_assoc];exact .ept f a b c⟩
  | _=>simp [Xdf] at hs
theorem XE {places:List (Nat × Nat)} [hb:HasB P s places] {x:Operand} {k off sz:Nat} {p q:PV} (ho:o.op=.fieldAddr s x k) (hx:E.ev x=some p) (hf:places[k]?=some (off,sz+1))
    (hq:Xdf p off=some q):OpV P o E H q:=fun m w ρ hR hρ=>by
  obtain ⟨a,e,hr⟩:=Xez (hρ x p hx) hq
  obtain ⟨fields,fl,i,h1,h2,h3,h4,h5⟩:=HasB.spot (P:=P) (t:=s) hf
  subst h3
  refine ⟨_,?_,hr⟩
  simp [execOp,ho,e,Instr.fieldAt,run_underlying h1,h2,Instr.sureAddr,fieldPlace,Xaj h4,h5]
theorem XaI {x:Operand} {p:PV} (ho:o.op=.nilCheck x) (hx:E.ev x=some p) (hp:(match p with | .ptr _ _=>true | .ept _ _=>true | _=>false)=true):OpV P o E H p:=fun m w ρ hR hρ=>by
  have h:=hρ x p hx
  refine ⟨ρ x,?_,h⟩
  generalize hv:ρ x=v at h
  cases h <;> simp at hp <;> simp [execOp,ho,hv]
def Xcj (p:PV) (sz:Nat) (i:Nat):Option PV :=
  match p with
  | .sl id off _ _=>some (.ptr id (off+i * sz))
  | .tr cells _ _=>some (.ept cells (i * sz))
  | _=>none
theorem Xa4 [hu:HasU P t (.slice e)] [hi:HasI P e sz bytes z] {x y:Operand} {k:IntKind} {i:Int} {n:Nat} {p q:PV} (ho:o.op=.indexAddr t x y) (hx:E.ev x=some p) (hy:E.ev y=some (.v (.int k i)))
    (hn:Xb3 p=some n) (hq:Xcj p sz i.toNat=some q) (h:0≤i∧i < n):OpV P o E H q:=fun m w ρ hR hρ=>by
  have h1:=hρ x p hx
  have h2:=XA (hρ y _ hy)
  obtain ⟨inf,zv,h3,h4,_⟩:=hi.i
  have key:∃ a c,ρ x=.slice (some a) n c∧Rep m w q (.pointer (some (a.add (i.toNat * sz)))):=by
    generalize ρ x=v at h1
    cases h1 with
    | sl hb a1 a2 a3 =>
      simp only [Xb3] at hn;cases hn
      simp only [Xcj] at hq;cases hq
      exact Zb6
    | sl0 a=>simp only [Xb3] at hn;cases hn;omega
    | tr f a1 a2 a3 a4 a5 a6 =>
      simp only [Xb3] at hn;cases hn
      simp only [Xcj] at hq;cases hq
      exact ⟨_,_,rfl,by rw [Addr.add_mk];exact .ept f a1 a5 a6⟩
    | tr0 a a2=>simp only [Xb3] at hn;cases hn;omega
    | trn=>simp only [Xb3] at hn;cases hn;omega
    | v x hx=>simp [Xcj] at hq
    | _=>simp [Xcj] at hq
  obtain ⟨a,c,e1,hr⟩:=key
  refine ⟨_,?_,hr⟩
  simp [execOp,ho,e1,h2,Instr.indexAt,run_underlying hu.u,asIntOf,h,Xaj h3,h4]
theorem XcW {x:Operand} {ps:List PV} {k:Nat} {p:PV} (ho:o.op=.extract x k) (hx:E.ev x=some (.tup ps)) (hk:ps[k]?=some p):OpV P o E H p:=fun m w ρ hR hρ=>by
  have h:=hρ x _ hx
  generalize hv:ρ x=v at h
  cases h with
  | tup vs hl hh =>
    have hlt:k < vs.size:=by rw [hl];exact (List.getElem?_eq_some_iff.1 hk).1
    refine ⟨vs[k],?_,by simpa [Array.getD_eq_getD_getElem?,hlt] using hh k p hk⟩
    simp [execOp,ho,hv,Instr.extract,hlt]
theorem XmO {ts:Array TypeId} {x y:Operand} {k:IntKind} {a b:Int} (ho:o.op=.call { callee:=.builtin .max,args:=#[x,y],argTypes:=ts }) (hx:E.ev x=some (.v (.int k a))) (hy:E.ev y=some (.v (.int k b))) :
    OpV P o E H (.v (.int k (max a b))):=fun m w ρ hR hρ=>by
  have h1:=XA (hρ x _ hx)
  have h2:=XA (hρ y _ hy)
  refine ⟨_,?_,.v _ rfl⟩
  have e:(if b > a then b else a)=max a b:=by split <;> omega
  simp [execOp,ho,resolve,invoke,builtin,h1,h2,run_max_int2,e]
theorem XmN {ts:Array TypeId} {x y:Operand} {k:IntKind} {a b:Int} (ho:o.op=.call { callee:=.builtin .min,args:=#[x,y],argTypes:=ts }) (hx:E.ev x=some (.v (.int k a))) (hy:E.ev y=some (.v (.int k b))) :
    OpV P o E H (.v (.int k (min a b))):=fun m w ρ hR hρ=>by
  have h1:=XA (hρ x _ hx)
  have h2:=XA (hρ y _ hy)
  refine ⟨_,?_,.v _ rfl⟩
  have e:(if b < a then b else a)=min a b:=by split <;> omega
  simp [execOp,ho,resolve,invoke,builtin,h1,h2,run_min_int2,e]
theorem Xaa [hs:HasU P s d] [hd:HasU P t (.int k)] {x:Operand} {j:IntKind} {a:Int} {b:Int} (ho:o.op=.convert s t x) (hx:E.ev x=some (.v (.int j a))) (hb:k.wrap a=b) :
    OpV P o E H (.v (.int k b)):=fun m w ρ hR hρ=>by
  have h1:=XA (hρ x _ hx)
  refine ⟨.int k b,?_,.v _ rfl⟩
  simp [execOp,ho,h1,convert,run_underlying hs.u,run_underlying hd.u,Conv.intToInt,hb]
theorem Xc9 {f:Fn} {caps:Array Operand} {ps:List PV} (ho:o.op=.makeFunc f #[] caps) (hp:evs E caps.toList=some ps):OpV P o E H (.fn f ps):=fun m w ρ hR hρ=>by
  obtain ⟨e1,e2⟩:=Xdb (m:=m) (w:=w) hρ caps.toList ps hp
  refine ⟨.func f #[] (caps.map ρ),by simp [execOp,ho,Instr.makeFunc],.fn _ (by simp [e1]) fun j c hj=>?_⟩
  have:=e2 j c hj
  simpa [Array.getD_eq_getD_getElem?,List.getD_eq_getElem?_getD] using this
end
end Go.Th
namespace Go.Th
open Go.RowKit
def Xcl (place:Nat→Option (Nat × Nat)) (cells:List PV):List (Nat × PV)→Option (List PV)
  | []=>some cells
  | (i,p)::rest=>match place i with
    | none=>none
    | some (off,size)=>match Nat.beq (cellsOf p).length size && Nat.ble (off+(cellsOf p).length) cells.length with
      | true=>Xcl place (X6 cells off (cellsOf p)) rest
      | false=>none
theorem Xem:∀ (vs:List Value) (off k:Nat) (cs:Array Value),off+k+vs.length≤cs.size →
    ((vs.zipIdx k).foldl (fun cs (c,j)=>cs.setIfInBounds (off+j) c) cs).size=cs.size ∧
    ∀ j:Nat,((vs.zipIdx k).foldl (fun cs (c,j)=>cs.setIfInBounds (off+j) c) cs)[j]?=if off+k≤j∧j < off+k+vs.length then vs[j - (off+k)]? else cs[j]?
  | [],off,k,cs,_=>by
    refine ⟨rfl,fun j=>?_⟩
    simp only [List.zipIdx_nil,List.foldl_nil,List.length_nil,Nat.add_zero]
    rw [if_neg (by omega)]
  | v::vs,off,k,cs,h=>by
    simp only [List.length_cons] at h
    obtain ⟨h1,h2⟩:=Xem vs off (k+1) (cs.setIfInBounds (off+k) v) (by simp;omega)
    simp only [List.zipIdx_cons,List.foldl_cons]
    refine ⟨by rw [h1];simp,fun j=>?_⟩
    rw [h2 j]
    simp only [List.length_cons]
    by_cases e:j=off+k
    · subst e
      rw [if_neg (by omega),if_pos (by omega)]
      simp only [Nat.sub_self,List.getElem?_cons_zero]
      rw [Array.getElem?_setIfInBounds_self_of_lt (by omega)]
    · by_cases e2:off+(k+1)≤j∧j < off+(k+1)+vs.length
      · rw [if_pos e2,if_pos (by omega)]
        rw [show j - (off+k)=(j - (off+(k+1)))+1 from by omega]
        simp
      · rw [if_neg e2,if_neg (by omega),Array.getElem?_setIfInBounds_ne (by omega)]
theorem Xck {m:Mp} {w:World} {place:Nat→Option (Nat × Nat)}:∀ (parts:List (Nat × PV)) (vparts:List (Nat × Value)) (cells cs:List PV) (vcells:Array Value),
    parts.length=vparts.length→(∀ (j:Nat) (x:Nat × PV) (y:Nat × Value),parts[j]?=some x→vparts[j]?=some y→x.1=y.1∧Rep m w x.2 y.2)→CR m w cells vcells.toList→Xcl place cells parts=some cs →
    ∃ vs,Instr.fill place vcells vparts=some vs∧CR m w cs vs.toList
  | [],[],cells,cs,vcells,_,_,hc,h=>by simp only [Xcl] at h;cases h;exact ⟨vcells,rfl,hc⟩
  | [],_::_,_,_,_,hl,_,_,_=>by simp at hl
  | _::_,[],_,_,_,hl,_,_,_=>by simp at hl
  | (i,p)::parts,(i',v)::vparts,cells,cs,vcells,hl,hp,hc,h=>by
    obtain ⟨e,hr⟩:=hp 0 (i,p) (i',v) rfl rfl
    simp only at e hr
    subst e
    simp only [Xcl] at h
    cases hpl:place i with
    | none=>rw [hpl] at h;cases h
    | some x =>
      obtain ⟨off,size⟩:=x
      rw [hpl] at h
      simp only at h
      split at h
      · rename_i hb
        simp only [Bool.and_eq_true,Nat.ble_eq] at hb
        obtain ⟨hb1,hb2⟩:=hb
        have hb1:=Nat.eq_of_beq_eq_true hb1
        have hcv:=Xbp hr
        have hsz:v.cells.size=(cellsOf p).length:=by have:=hcv.1;simpa using this
        have hcl:vcells.size=cells.length:=by have:=hc.1;simpa using this
        have hcond:¬ ((v.cells.size≠size || decide (off+v.cells.size > vcells.size))=true):=by
          simp only [Bool.or_eq_true,decide_eq_true_eq,not_or]
          refine ⟨?_,by omega⟩
          simp;omega
        obtain ⟨f1,f2⟩:=Xem v.cells.toList off 0 vcells (by simp;omega)
        have hfold:(v.cells.zipIdx.foldl (fun cs (c,j)=>cs.setIfInBounds (off+j) c) vcells)=((v.cells.toList.zipIdx 0).foldl (fun cs (c,j)=>cs.setIfInBounds (off+j) c) vcells):=by
          rw [← Array.foldl_toList];simp
        have hnew:CR m w (X6 cells off (cellsOf p)) (v.cells.zipIdx.foldl (fun cs (c,j)=>cs.setIfInBounds (off+j) c) vcells).toList:=by
          rw [hfold]
          refine ⟨by rw [X5];simpa using f1.trans hcl,fun j c hj=>?_⟩
          rw [XbM _ _ _ _ hb2] at hj
          rw [Array.getElem?_toList,f2 j]
          simp only [Array.length_toList,Nat.add_zero]
          by_cases e:off≤j∧j < off+(cellsOf p).length
          · rw [if_pos e] at hj
            rw [if_pos (by omega)]
            exact hcv.2 _ c hj
          · rw [if_neg e] at hj
            rw [if_neg (by omega)]
            have:=hc.2 j c hj
            simpa using this
        obtain ⟨vs,h1,h2⟩:=Xck parts vparts _ cs _ (by simpa using hl) (fun j x y hx hy=>hp (j+1) x y (by simpa using hx) (by simpa using hy)) hnew h
        refine ⟨vs,?_,h2⟩
        simp only [Instr.fill,hpl]
        rw [if_neg hcond]
        exact h1
      · cases h
def evp (E:Env):List (Nat × Operand)→Option (List (Nat × PV))
  | []=>some []
  | (i,x)::r=>match E.ev x with
    | some p=>match evp E r with
      | some ps=>some ((i,p)::ps)
      | none=>none
    | none=>none
theorem Xeo {m:Mp} {w:World} {E:Env} {ρ:Operand→Value} (hρ:∀ x q,E.ev x=some q→Rep m w q (ρ x)):∀ (l:List (Nat × Operand)) (ps:List (Nat × PV)),evp E l=some ps →
    ps.length=(l.map fun (x:Nat × Operand)=>(x.1,ρ x.2)).length∧∀ (j:Nat) (x:Nat × PV) (y:Nat × Value),ps[j]?=some x→(l.map fun (x:Nat × Operand)=>(x.1,ρ x.2))[j]?=some y→x.1=y.1∧Rep m w x.2 y.2
  | [],ps,h=>by simp [evp] at h;subst h;simp
  | (i,x)::r,ps,h=>by
    simp only [evp] at h
    split at h
    · rename_i p hp
      split at h
      · rename_i qs hq
        cases h
        obtain ⟨h1,h2⟩:=Xeo hρ r qs hq
        refine ⟨by simp [h1],fun j a b ha hb=>?_⟩
        cases j with
        | zero =>
          simp at ha hb
          subst ha;subst hb
          exact ⟨rfl,hρ x p hp⟩
        | succ j=>exact h2 j a b (by simpa using ha) (by simpa using hb)
      · cases h
    · cases h
theorem XtB {m:Mp} {w:World} {z:List Value} (hz:z.all (fun x=>x.oneCell')=true):CR m w (z.map PV.v) z:=by
  refine ⟨by simp,fun j c hj=>?_⟩
  rw [List.getElem?_map] at hj
  cases h:z[j]? with
  | none=>rw [h] at hj;cases hj
  | some x =>
    rw [h] at hj
    simp only [Option.map_some,Option.some.injEq] at hj
    subst hj
    have:=List.all_eq_true.1 hz x (List.mem_of_getElem? h)
    exact Zc0
theorem XnH {m:Mp} {w:World} {cs:List PV} {vs:Array Value} (h:CR m w cs vs.toList):Rep m w (.agg cs) (.agg vs):=by
  refine .agg vs (by simpa using h.1) fun j c hj=>?_
  obtain ⟨u,hu,hr⟩:=h.2 j c hj
  have hlt:j < vs.size:=by
    have h1:vs.size=cs.length:=by simpa using h.1
    rw [h1];exact (List.getElem?_eq_some_iff.1 hj).1
  simp [hlt] at hu
  subst hu
  simpa [Array.getD_eq_getD_getElem?,hlt] using hr
theorem XfJ {m:Mp} {w:World} {cs:List PV} {vs:Array Value} (h:CR m w cs vs.toList) (h1:cs.all XV=true):∀ (j:Nat) (c:PV),cs[j]?=some c→∃ v:Value,vs[j]?=some v∧Rep m w c v∧v.oneCell'=true:=fun j c hj=>by
  obtain ⟨u,hu,hr⟩:=h.2 j c hj
  exact Zc1
section
variable {P:Program} {E:Env} {H:Xh} {o:Oper} {t s e:TypeId} {d:TypeDesc} {size bytes sz:Nat} {z:List Value} {fields:Array Field} {k:IntKind} {places:List (Nat × Nat)}
theorem XcX [hb:HasB P t places] [hi:HasI P t size bytes z] {parts:Array (Nat × Operand)} {ps:List (Nat × PV)} {cs:List PV} (ho:o.op=.build t parts) (hp:evp E parts.toList=some ps) (hz:z.all (fun x=>x.oneCell')=true)
    (hc:Xcl (fun (i:Nat)=>places[i]?) (z.map PV.v) ps=some cs):OpV P o E H (.agg cs):=fun m w ρ hR hρ=>by
  obtain ⟨fields,h1,h2⟩:=HasB.run (P:=P) (t:=t) (places:=places)
  obtain ⟨i,zv,h3,_,_,h4,h5⟩:=hi.i
  obtain ⟨e1,e2⟩:=Xeo (m:=m) (w:=w) hρ _ _ hp
  obtain ⟨vs,hf,hr⟩:=Xck ps (parts.toList.map fun (x:Nat × Operand)=>(x.1,ρ x.2)) (z.map PV.v) cs zv.cells e1 e2 (by rw [h5];exact XtB hz) hc
  refine ⟨.agg vs,?_,XnH hr⟩
  have hpl:(fun (i:Nat)=>places.toArray[i]?)=fun (i:Nat)=>places[i]?:=by funext i;simp
  simp only [execOp,ho,Instr.build,zeroValue,typeInfo,Sem.run_bind,run_program,Result.andThen_ok,h3,Sem.run_pure,h4,run_underlying h1,h2 w,hpl]
  rw [show (Array.map (fun x:Nat × Operand=>(x.1,ρ x.2)) parts).toList=parts.toList.map fun (x:Nat × Operand)=>(x.1,ρ x.2) from by simp]
  rw [hf]
  rfl
theorem XdF {m:Mp} {w:World} (hR:R m H w) {cs:List PV} {vs:Array Value} (hc:CR m w cs vs.toList) (h1:cs.all XV=true) (e:TypeId) :
    ∃ m',Le m w m' (w.alloc (.cells vs e))∧R m' (H++[some ⟨cs,e,true⟩]) (w.alloc (.cells vs e))∧m'.blk H.length=some (w.heap.size,0,vs.size):=by
  have hl:vs.size=cs.length:=by simpa using hc.1
  obtain ⟨a,b⟩:=hR.new cs e vs (by omega) (XfJ hc h1)
  exact ⟨_,b,a,by simp⟩
theorem XhL [hi:HasI P t size bytes z] (ho:o.op=.alloc t) (hz:z.all (fun x=>x.oneCell')=true):OpW P o E H (.ptr H.length 0) (H++[some ⟨z.map PV.v,t,true⟩]):=fun m w ρ hR hρ=>by
  obtain ⟨i,zv,h3,_,_,h4,h5⟩:=hi.i
  have h1:(z.map PV.v).all XV=true:=by simpa [XV] using hz
  obtain ⟨m',a,b,c⟩:=XdF hR (by rw [h5];exact XtB hz) h1 t (vs:=zv.cells)
  refine ⟨.pointer (some ⟨w.heap.size,0,none⟩),m',w.alloc (.cells zv.cells t),?_,a,b,.ptr (off:=0) c⟩
  simp [execOp,ho,Instr.alloc,zeroValue,typeInfo,h3,h4,newVar,newRow]
theorem XmF {x:Operand} {p:PV} (ho:o.op=.box t x) (hx:E.ev x=some p) (h1:(cellsOf p).all XV=true):OpW P o E H (.ptr H.length 0) (H++[some ⟨cellsOf p,t,true⟩]):=fun m w ρ hR hρ=>by
  obtain ⟨m',a,b,c⟩:=XdF hR (Xbp (hρ x p hx)) h1 t
  refine ⟨.pointer (some ⟨w.heap.size,0,none⟩),m',w.alloc (.cells (ρ x).cells t),?_,a,b,.ptr (off:=0) c⟩
  simp [execOp,ho,Instr.box,newVar,newRow]
theorem Xbd [hu:HasU P t (.slice e)] [hi:HasI P e sz bytes z] {n:Nat} {parts:Array (Nat × Operand)} {ps:List (Nat × PV)} {cs:List PV} (ho:o.op=.buildSlice t n parts) (hp:evp E parts.toList=some ps) (hz:z.all (fun x=>x.oneCell')=true)
    (hzl:Nat.beq z.length sz=true) (hpos:Nat.ble 1 sz=true) (hn:Nat.ble (n * sz) 16777216=true) (hc:Xcl (fun i=>some (i * sz,sz)) ((List.range (n * sz)).map fun j=>.v (z.getD (j % z.length) undef)) ps=some cs) (h1:cs.all XV=true) :
    OpW P o E H (.sl H.length 0 n sz) (H++[some ⟨cs,e,true⟩]):=fun m w ρ hR hρ=>by
  obtain ⟨i,zv,h3,rfl,_,h4,h5⟩:=hi.i
  obtain ⟨e1,e2⟩:=Xeo (m:=m) (w:=w) hρ _ _ hp
  have hzs:zv.cells.size=i.size:=by have:=Nat.eq_of_beq_eq_true hzl;rw [← h5] at this;simpa using this
  have hn':=Nat.le_of_ble_eq_true hn
  have hpos:=Nat.le_of_ble_eq_true hpos
  have hz0:CR m w ((List.range (n * i.size)).map fun j=>PV.v (z.getD (j % z.length) undef)) ((Array.range (n * i.size)).map (zv.cells[· % zv.cells.size]!)).toList:=by
    refine ⟨by simp,fun j c hj=>?_⟩
    rw [List.getElem?_map] at hj
    rcases Nat.lt_or_ge j (n * i.size) with hlt | hge
    · rw [List.getElem?_range hlt] at hj
      simp only [Option.map_some,Option.some.injEq] at hj
      subst hj
      have hm:j % zv.cells.size < zv.cells.size:=Nat.mod_lt _ (by omega)
      have hzl':z.length=zv.cells.size:=by rw [← h5];simp
      have hget:z.getD (j % z.length) undef=zv.cells[j % zv.cells.size]:=by
        rw [hzl']
        simp only [← h5,List.getD_eq_getElem?_getD,Array.getElem?_toList]
        rw [Array.getElem?_eq_getElem hm];rfl
      refine ⟨zv.cells[j % zv.cells.size],?_,?_⟩
      · simp [hlt,hm]
      · rw [hget]
        have:(zv.cells[j % zv.cells.size]).oneCell'=true:=by
          rw [← h5] at hz
          exact List.all_eq_true.1 hz _ (by simp)
        exact Zb7
    · rw [List.getElem?_eq_none (by simpa using hge)] at hj;cases hj
  obtain ⟨vs,hf,hr⟩:=Xck ps (parts.toList.map fun (x:Nat × Operand)=>(x.1,ρ x.2)) _ cs _ e1 e2 hz0 hc
  obtain ⟨m',a,b,c⟩:=XdF hR hr h1 e
  have hsz:vs.size=n * i.size:=by
    have h6:vs.size=cs.length:=by simpa using hr.1
    have h7:cs.length=n * i.size:=by
      have:∀ (ps:List (Nat × PV)) (cells cs:List PV),Xcl (fun j=>some (j * i.size,i.size)) cells ps=some cs→cs.length=cells.length:=by
        intro ps
        induction ps with
        | nil=>intro cells cs h;simp only [Xcl] at h;cases h;rfl
        | cons x r ih =>
          intro cells cs h
          obtain ⟨j,p⟩:=x
          simp only [Xcl] at h
          split at h
          · rw [ih _ _ h,X5]
          · cases h
      rw [this _ _ _ hc];simp
    omega
  have hmax:n≤maxLen:=by
    have:=Nat.le_mul_of_pos_right n hpos
    simp only [maxLen];omega
  refine ⟨.slice (some ⟨w.heap.size,0,none⟩) n n,m',w.alloc (.cells vs e),?_,a,b,?_⟩
  · have hlim:¬ (16777216 < n * i.size):=by omega
    have h24:(2:Nat) ^ 24=16777216:=by decide
    have hparts:(Array.map (fun x:Nat × Operand=>(x.1,ρ x.2)) parts).toList=parts.toList.map fun (x:Nat × Operand)=>(x.1,ρ x.2):=by simp
    simp only [execOp,ho,Instr.buildSlice,Sem.run_bind,run_underlying hu.u,Result.andThen_ok,Xaj h3,h24,gt_iff_lt,hlim,if_false,hparts]
    by_cases h0:n * i.size=0
    · have hr0:∀ f:Nat→Value,Array.map f (Array.range 0)=#[]:=by intro f;simp
      rw [h0,hr0] at hf
      simp only [h0,if_true,Sem.run_bind,Sem.run_pure,Result.andThen_ok,hr0,hf]
      simp [newRow]
    · simp only [h0,if_false,Sem.run_bind,Sem.run_pure,Result.andThen_ok,zeroValue,typeInfo,run_program,h3,h4,hf]
      simp [newRow]
  · exact .sl (off:=0) c (Nat.le_refl _) hmax (by rw [hsz];simp)
end
end Go.Th
namespace Go.Th
open Go.RowKit
theorem R.rewrite {m:Mp} {H:Xh} {w w':World} (h:R m H w) {id b d lim:Nat} {B:Blk} (hi:H[id]?=some (some B)) (ho:B.own=true) (hm:m.blk id=some (b,d,lim)) {cur':Array Value} {cs:List PV}
    (hs:w'.heap.size=w.heap.size) (hos:w'.os=w.os) (ht:w'.tape=w.tape) (hout:w'.output=w.output) (hother:∀ k,k≠b→w'.heap[k]?=w.heap[k]?) (hb:XcY w'.heap[b]? B.elem cur' d)
    (hsz:cur'.size=lim) (hlen:cs.length≤lim) (hcs:∀ (j:Nat) (c:PV),cs[j]?=some c→∃ v:Value,cur'[j]?=some v∧Rep m w c v∧v.oneCell'=true) :
    R m (H.set id (some { B with cells:=cs })) w'∧Le m w m w':=by
  obtain ⟨_,_,hk,_⟩:=h.blk id B b d lim hi hm
  have hk:=hk ho
  have hfree:∀ i C di li,i≠id→H[i]?=some (some C)→m.blk i=some (b,di,li)→False:=fun i C di li hne hi' hm'=>by
    obtain ⟨_,_,h1,h2⟩:=h.blk i C b di li hi' hm'
    cases hown:C.own with
    | true=>exact h.inj i id C B _ _ _ _ _ _ hne hi' hi hown ho hm' hm rfl
    | false=>exact hk (h.rk b (h2 hown))
  obtain ⟨h1,hle⟩:=(h.kill id).world (w':=w') (by omega) hos ht hout (fun k hk'=>hother k (fun e=>hk (e ▸ hk'))) (fun i C bi di li hi' hm'=>hother bi (fun e=>by
    subst e
    rcases XH hi' with ⟨_,e⟩ | ⟨n1,e⟩
    · cases e
    · exact hfree i C di li n1 e hm'))
  refine ⟨?_,hle⟩
  have h2:=h1.put (id:=id) (b:=b) (lim:=lim) { B with cells:=cs } hm ⟨cur',hb,hsz,by simpa using hlen,fun j c hj=>?_⟩ ho hk (fun i C di li hne hi' _ hm'=>by
    rcases XH hi' with ⟨e,_⟩ | ⟨n1,e⟩
    · exact hne e
    · exact hfree i C di li n1 e hm')
  · rwa [List.set_set] at h2
  · obtain ⟨v,a1,a2,a3⟩:=hcs j c hj
    exact ⟨v,by simpa using a1,a2.mono h.rk hle,a3⟩
def XdW (H:Xh) (p:PV) (cs:List PV):Option Xh :=
  match p with
  | .ptr id off=>match H[id]? with
    | some (some B)=>match B.own && Nat.ble (off+cs.length) B.cells.length with
      | true=>some (H.set id (some { B with cells:=X6 B.cells off cs }))
      | false=>none
    | _=>none
  | _=>none
section
variable {P:Program} {E:Env} {H H':Xh} {o:Oper} {t s e:TypeId} {d:TypeDesc} {size bytes sz:Nat} {z:List Value} {fields:Array Field} {k:IntKind} {places:List (Nat × Nat)}
theorem XhO [hi:HasI P t size bytes z] {x y:Operand} {p q:PV} (ho:o.op=.store t x y) (hx:E.ev x=some p) (hy:E.ev y=some q) (hsz:Nat.beq (cellsOf q).length size=true) (h1:(cellsOf q).all XV=true)
    (hs:XdW H p (cellsOf q)=some H'):OpS P o E H H':=fun m w ρ hR hρ=>by
  obtain ⟨i,zv,h3,rfl,_⟩:=hi.i
  have hp:=hρ x p hx
  have hq:=Xbp (hρ y q hy)
  have hqs:(ρ y).cells.size=i.size:=by have:=hq.1;simp at this;rw [this];exact Nat.eq_of_beq_eq_true hsz
  have hp1:=hρ x p hx
  cases p with
  | ptr id off =>
    simp only [XdW] at hs
    split at hs
    · rename_i B hB
      split at hs
      · rename_i hb
        simp only [Bool.and_eq_true,Nat.ble_eq] at hb
        obtain ⟨hown,hle⟩:=hb
        cases hs
        generalize hv:ρ x=v at hp1
        cases hp1 with
        | @ptr _ _ b lim hm =>
          obtain ⟨_,⟨cur,c1,c2,c3,c4⟩,_,_⟩:=hR.blk id B b 0 lim hB hm
          have hlen:(ρ y).cells.toList.length=(cellsOf q).length:=hq.1
          have h1v:∀ u ∈ (ρ y).cells.toList,u.oneCell'=true:=fun u hu=>by
            obtain ⟨j,hj⟩:=List.mem_iff_getElem?.1 hu
            have hlt:j < (cellsOf q).length:=by rw [← hlen];exact (List.getElem?_eq_some_iff.1 hj).1
            obtain ⟨u',hu',hr,h1'⟩:=XfJ (vs:=(ρ y).cells) hq h1 j _ (List.getElem?_eq_getElem hlt)
            have:u=u':=by
              have e:(ρ y).cells.toList[j]?=some u':=by simpa using hu'
              rw [hj] at e;cases e;rfl
            rwa [this]
          have hst:=run_storeCells_at P b off B.elem.tid (ρ y).cells.toList 0 cur w c1 (by omega) h1v
          have hcurl:cur.toList.length=lim:=by simpa using c2
          have hrow:=setRow_heap w b cur ((cur.toList.take (off+0)++(ρ y).cells.toList++cur.toList.drop (off+0+(ρ y).cells.toList.length)).toArray) B.elem.tid (0,0) c1
          obtain ⟨r1,r2⟩:=hR.rewrite (w':=w.setRow b ((cur.toList.take (off+0)++(ρ y).cells.toList++cur.toList.drop (off+0+(ρ y).cells.toList.length)).toArray)) hB hown hm
            (cur':=(cur.toList.take (off+0)++(ρ y).cells.toList++cur.toList.drop (off+0+(ρ y).cells.toList.length)).toArray) (cs:=X6 B.cells off (cellsOf q))
            (by simp [World.setRow]) rfl rfl rfl (fun k hk=>setRow_other w b k _ hk) hrow
            (by simp only [List.size_toArray,List.length_append,List.length_take,List.length_drop];omega)
            (by rw [X5];omega) (fun j c hj=>by
              rw [XbM _ _ _ _ hle] at hj
              simp only [List.getElem?_toArray,Nat.add_zero]
              by_cases e:off≤j∧j < off+(cellsOf q).length
              · rw [if_pos e] at hj
                obtain ⟨u,a1,a2,a3⟩:=XfJ (vs:=(ρ y).cells) hq h1 _ c hj
                refine ⟨u,?_,a2,a3⟩
                rw [List.append_assoc,List.getElem?_append_right (by simp;omega),List.getElem?_append_left (by simp only [List.length_take];omega)]
                simp only [List.length_take]
                rw [show j - min off cur.toList.length=j - off from by omega]
                simpa using a1
              · rw [if_neg e] at hj
                obtain ⟨u,a1,a2,a3⟩:=c4 j c hj
                refine ⟨u,?_,a2,a3⟩
                have a1':cur.toList[j]?=some u:=by simpa using a1
                have hjl:j < B.cells.length:=(List.getElem?_eq_some_iff.1 hj).1
                rcases Nat.lt_or_ge j off with hlt | hge
                · rw [List.append_assoc,List.getElem?_append_left (by simp;omega),List.getElem?_take,if_pos hlt]
                  exact a1'
                · rw [List.getElem?_append_right (by simp only [List.length_append,List.length_take];omega),List.getElem?_drop]
                  simp only [List.length_append,List.length_take]
                  rw [show off+(ρ y).cells.toList.length+(j - (min off cur.toList.length+(ρ y).cells.toList.length))=j from by omega]
                  exact a1')
          refine ⟨m,_,?_,r2,r1⟩
          have hoff:(⟨b,0+off,none⟩:Addr)=⟨b,off,none⟩:=by simp
          simp only [execOp,ho,hv,Instr.storeAt,Instr.sureAddr,storeVar,Sem.run_bind,Sem.run_pure,Result.andThen_ok,Xaj h3,hqs,ne_eq,not_true_eq_false,if_false,hoff,hst]
      · cases hs
    · cases hs
  | _=>simp [XdW] at hs
def Xq (H:Xh) (sz:Nat):PV→Option (Nat × List PV)
  | .sl id off len sz'=>match Nat.beq sz' sz with
    | true=>match H[id]? with
      | some (some B)=>match Xai (len * sz) (B.cells.drop off) with
        | some cs=>some (len,cs)
        | none=>none
      | _=>none
    | false=>none
  | .tr cells len sz'=>match Nat.beq sz' sz with
    | true=>some (len,cells)
    | false=>none
  | .v (.slice none 0 _)=>some (0,[])
  | _=>none
theorem Xbb {m:Mp} {w:World} (hR:R m H w) {p:PV} {n:Nat} {cs:List PV} {v:Value} (h:Rep m w p v) (hs:Xq H sz p=some (n,cs)) :
    ∃ a c,v=.slice a n c∧cs.length=n * sz∧(0 < n→∃ b o us,a=some ⟨b,o,none⟩∧CR m w cs us∧∀ (j:Nat) (u:Value),us[j]?=some u→w.cell? ⟨b,o+j,none⟩=some u):=by
  have list:∀ (cs:List PV) (b o:Nat),(∀ (j:Nat) (c:PV),cs[j]?=some c→∃ u,w.cell? ⟨b,o+j,none⟩=some u∧Rep m w c u)→∃ us,CR m w cs us∧∀ (j:Nat) (u:Value),us[j]?=some u→w.cell? ⟨b,o+j,none⟩=some u:=fun cs b o hc=>by
    refine ⟨(List.range cs.length).map fun j=>(w.cell? ⟨b,o+j,none⟩).getD undef,⟨by simp,fun j c hj=>?_⟩,fun j u hu=>?_⟩
    · have hlt:j < cs.length:=(List.getElem?_eq_some_iff.1 hj).1
      obtain ⟨u,hu,hr⟩:=hc j c hj
      exact ⟨u,by simp [hlt,hu],hr⟩
    · rw [List.getElem?_map] at hu
      rcases Nat.lt_or_ge j cs.length with hlt | hge
      · rw [List.getElem?_range hlt] at hu
        obtain ⟨u',hu',_⟩:=hc j _ (List.getElem?_eq_getElem hlt)
        simp only [Option.map_some,Option.some.injEq,hu',Option.getD_some] at hu
        subst hu
        exact hu'
      · rw [List.getElem?_eq_none (by simpa using hge)] at hu;cases hu
  cases h with
  | @sl id off len sz' b lim cap hm a1 a2 a3 =>
    simp only [Xq] at hs
    split at hs
    · rename_i hbq
      split at hs
      · rename_i B hB
        split at hs
        · rename_i cs' hcs
          cases hs
          obtain ⟨t1,rfl⟩:=(Xaq _ _ _).1 hcs
          refine ⟨_,_,rfl,by simp only [List.length_take];omega,fun _=>?_⟩
          obtain ⟨us,u1,u2⟩:=list ((B.cells.drop off).take (n * sz)) b (0+off) (fun j c hj=>by
            obtain ⟨_,⟨cur,c1,c2,c3,c4⟩,_⟩:=hR.blk id B b 0 lim hB hm
            rw [List.getElem?_take] at hj
            split at hj
            · rw [List.getElem?_drop] at hj
              obtain ⟨u,hu,hru,_⟩:=c4 (off+j) c hj
              exact ZcY
            · cases hj)
          exact ⟨b,0+off,us,rfl,u1,u2⟩
        · cases hs
      · cases hs
    · cases hs
  | sl0 a =>
    simp only [Xq] at hs
    split at hs
    · split at hs
      · split at hs
        · rename_i cs' hcs
          cases hs
          obtain ⟨t1,rfl⟩:=(Xaq _ _ _).1 hcs
          exact ⟨_,_,rfl,by simp,fun h=>by omega⟩
        · cases hs
      · cases hs
    · cases hs
  | @tr cells len sz' b o cap f hr hl a1 a2 hc hh =>
    simp only [Xq] at hs
    split at hs
    · rename_i hbq
      cases hs
      have:=Nat.eq_of_beq_eq_true hbq
      subst this
      obtain ⟨us,u1,u2⟩:=list cs b o (fun j c hj=>⟨f j,hc j c hj,hh j c hj⟩)
      exact ⟨_,_,rfl,hl,fun _=>⟨b,o,us,rfl,u1,u2⟩⟩
    · cases hs
  | tr0 a _ =>
    simp only [Xq] at hs
    split at hs
    · cases hs;exact ⟨_,_,rfl,by simp,fun h=>by omega⟩
    · cases hs
  | trn =>
    simp only [Xq] at hs
    split at hs
    · cases hs;exact ⟨_,_,rfl,by simp,fun h=>by omega⟩
    · cases hs
  | v _ hx=>cases v with
    | slice a n' c =>
      cases a with
      | none =>
        cases n' with
        | zero=>simp only [Xq] at hs;cases hs;exact ⟨_,_,rfl,by simp,fun h=>by omega⟩
        | succ n'=>simp [Xq] at hs
      | some a=>simp [Xq] at hs
    | _=>simp [Xq] at hs
  | _=>simp [Xq] at hs
def Xo (H:Xh) (e:TypeId) (sz:Nat) (p:PV) (k:Nat) (xs:List PV):Option (Nat × PV × Xh) :=
  match p with
  | .v (.slice none 0 0)=>some (k,.sl H.length 0 k sz,H++[some ⟨xs,e,true⟩])
  | .sl id 0 len sz'=>match Nat.beq sz' sz with
    | true=>match H[id]? with
      | some (some B)=>match B.own && Nat.beq B.elem.tid e && Nat.beq B.cells.length (len * sz) with
        | true=>some (len+k,.sl H.length 0 (len+k) sz,H.set id none++[some ⟨B.cells++xs,e,true⟩])
        | false=>none
      | _=>none
    | false=>none
  | _=>none
theorem XaV {i:TypeInfo} {w:World} (ht:P.underlying t=some (.slice e)) (hi:P.info? e=some i) (a:Option Addr) (n c:Nat) (hn:n≤c) (b:Option Addr) (c':Nat) (ty:TypeId) :
    (Builtin.append_ #[t,t] ty #[.slice a n c,.slice b 0 c']).run P w=.ok (.slice a n c) w:=by
  cases a <;> cases b <;> simp [Builtin.append_,run_underlying ht,sizeOf,typeInfo,hi,Builtin.lenOf,Builtin.firstCells,hn,storeCells,loadCells,loadCellsFrom]
theorem XiH {m:Mp} {w:World} {ps qs:List PV} {us vs:List Value} (h:CR m w ps us) (k:CR m w qs vs):CR m w (ps++qs) (us++vs):=by
  refine ⟨by simp [h.1,k.1],fun j c hj=>?_⟩
  rcases Nat.lt_or_ge j ps.length with hlt | hge
  · rw [List.getElem?_append_left hlt] at hj
    obtain ⟨u,hu,hr⟩:=h.2 j c hj
    exact ⟨u,by rw [List.getElem?_append_left (by rw [h.1];exact hlt)];exact hu,hr⟩
  · rw [List.getElem?_append_right hge] at hj
    obtain ⟨u,hu,hr⟩:=k.2 _ c hj
    exact ⟨u,by rw [List.getElem?_append_right (by rw [h.1];exact hge),h.1];exact hu,hr⟩
theorem XcS {m:Mp} {w:World} (hR:R m H w) {cs:List PV} {us rest:List Value} (hc:CR m w cs us) (h1:cs.all XV=true) (e:TypeId) {cap n:Nat} (hn:n≤cap) (hm:cap≤maxLen)
    (hsz:us.length+rest.length=cap * sz) :
    ∃ m',Le m w m' (w.drew.alloc (.cells (us++rest).toArray e))∧R m' (H++[some ⟨cs,e,true⟩]) (w.drew.alloc (.cells (us++rest).toArray e)) ∧
      Rep m' (w.drew.alloc (.cells (us++rest).toArray e)) (.sl H.length 0 n sz) (.slice (some ⟨w.heap.size,0,none⟩) n cap):=by
  obtain ⟨hR1,hle1⟩:=hR.drew
  have hl:=hc.1
  obtain ⟨a,b⟩:=hR1.new cs e (us++rest).toArray (by simp;omega) (fun j c hj=>by
    obtain ⟨u,hu,hr⟩:=hc.2 j c hj
    have hlt:j < us.length:=(List.getElem?_eq_some_iff.1 hu).1
    exact ⟨u,by simpa [List.getElem?_append_left hlt] using hu,hr.mono hR.rk hle1,Xbx hr (List.all_eq_true.1 h1 c (List.mem_of_getElem? hj))⟩)
  refine ⟨_,hle1.trans b,a,.sl (off:=0) (lim:=(us++rest).toArray.size) ?_ hn hm ?_⟩
  · show (if H.length=H.length then some (w.drew.heap.size,0,(us++rest).toArray.size) else _)=_
    rw [if_pos rfl];rfl
  · simp;omega
theorem Xdq [hu:HasU P t (.slice e)] [hi:HasI P e sz bytes z] {x y:Operand} {p q r:PV} {k n:Nat} {xs:List PV} (ho:o.op=.call { callee:=.builtin .append,args:=#[x,y],argTypes:=#[t,t] })
    (hx:E.ev x=some p) (hy:E.ev y=some q) (hzl:Nat.beq z.length sz=true) (hq:Xq H sz q=some (k,xs)) (h1:xs.all XV=true) (ha:Xo H e sz p k xs=some (n,r,H')) (hb:n * bytes≤140737488355328) (h63:n≤9223372036854775807):OpW P o E H r H':=fun m w ρ hR hρ=>by
  obtain ⟨i,zv,h3,hsz,hby,h4,h5⟩:=hi.i
  subst hsz
  have hzs:zv.cells.size=i.size:=by have:=Nat.eq_of_beq_eq_true hzl;rw [← h5] at this;simpa using this
  obtain ⟨ay,cy,ey,hlx,hxs⟩:=Xbb hR (hρ y q hy) hq
  have hp:=hρ x p hx
  generalize hv:ρ x=vx at hp
  have hexec:∀ v' w',(Builtin.append_ #[t,t] o.type #[vx,.slice ay k cy]).run P w=.ok v' w'→(execOp ρ o).run P w=.ok (.value v') w':=fun v' w' h=>by
    simp [execOp,ho,resolve,invoke,builtin,ey,hv,h]
  have hmaxn:n≤maxLen:=by simp only [maxLen];omega
  rcases Nat.eq_zero_or_pos k with hk0 | hkp
  ·
    subst hk0
    have hxs0:xs=[]:=List.eq_nil_of_length_eq_zero (by simpa using hlx)
    subst hxs0
    cases hp with
    | v _ hv' =>
      cases vx with
      | slice a n' c =>
        cases a with
        | none =>
          cases n' with
          | zero =>
            cases c with
            | zero =>
              simp only [Xo] at ha
              cases ha
              exact Zc2
            | succ c=>simp [Xo] at ha
          | succ n'=>simp [Xo] at ha
        | some a=>simp [Xo] at ha
      | _=>simp [Xo] at ha
    | @sl id off len sz' b lim cap hm a1 a2 a3 =>
      cases off with
      | succ off=>simp [Xo] at ha
      | zero =>
        simp only [Xo] at ha
        split at ha
        · rename_i hbq
          have hbq:=Nat.eq_of_beq_eq_true hbq
          split at ha
          · rename_i B hB
            split at ha
            · rename_i hc
              simp only [Bool.and_eq_true] at hc
              obtain ⟨⟨hown,hel⟩,hlen⟩:=hc
              have hel:=Nat.eq_of_beq_eq_true hel
              have hlen:=Nat.eq_of_beq_eq_true hlen
              cases ha
              subst hbq
              obtain ⟨_,⟨cur,c1,c2,c3,c4⟩,hk,_⟩:=hR.blk id B b 0 lim hB hm
              obtain ⟨r1,r2⟩:=(hR.kill id).add (b:=b) (d:=0) (lim:=lim) ⟨B.cells++[],e,true⟩ ⟨cur,by show w.heap[b]?=some (.cells cur e (0,0));rw [← hel];exact c1,c2,by simpa using c3,fun j c hj=>c4 j c (by simpa using hj)⟩ rfl (hk hown) (fun j C dj lj hj hoj hmj=>by
                rcases XH hj with ⟨_,e⟩ | ⟨n1,e⟩
                · cases e
                · exact hR.inj j id C B _ _ _ _ _ _ n1 e hB hoj hown hmj hm rfl)
              refine ⟨.slice (some ⟨b,0+0,none⟩) len cap,_,w,hexec _ _ (XaV hu.u h3 _ _ _ a1 ay cy _),r2,r1,?_⟩
              simp only [List.length_set]
              exact .sl (off:=0) (lim:=lim) (by simp) a1 a2 (by simpa using a3)
            · cases ha
          · cases ha
        · cases ha
    | @sl0 id off sz' a =>
      cases off with
      | succ off=>simp [Xo] at ha
      | zero =>
        simp only [Xo] at ha
        split at ha
        · split at ha
          · split at ha
            · cases ha
              exact Zc3
            · cases ha
          · cases ha
        · cases ha
    | _=>simp [Xo] at ha
  · obtain ⟨by_,oy,us,eay,hus,hcell⟩:=hxs hkp
    subst eay
    have husl:us.length=k * i.size:=hus.1.trans hlx
    have hnews:∀ (j:Nat) (v:Value),us[j]?=some v→w.cell? ((⟨by_,oy,none⟩:Addr).add j)=some v:=fun j v hj=>by rw [Addr.add_mk];exact hcell j v hj
    have h1u:∀ u ∈ us,u.oneCell'=true:=fun u hu=>by
      obtain ⟨j,hj⟩:=List.mem_iff_getElem?.1 hu
      have hlt:j < xs.length:=by rw [← hus.1];exact (List.getElem?_eq_some_iff.1 hj).1
      obtain ⟨u',hu',hr⟩:=hus.2 j _ (List.getElem?_eq_getElem hlt)
      rw [hj] at hu';cases hu'
      exact ZbB
    have fresh:∀ (G:Xh) (hG:R m G w),n=k→∀ a,vx=.slice a 0 0→∃ v m' w',(execOp ρ o).run P w=.ok (.value v) w'∧Le m w m' w'∧R m' (G++[some ⟨xs,e,true⟩]) w'∧Rep m' w' (.sl G.length 0 k i.size) v:=fun G hG hnk a hvx=>by
      subst hnk
      have hkb:n * i.bytes≤140737488355328:=by rw [hby];exact hb
      have hcap:n≤grownCap w n 0 e:=grownCap_ge w n 0 e
      have hcm:=grownCap_le_maxLen w n 0 e hmaxn
      obtain ⟨m',g1,g2,g3⟩:=XcS (sz:=i.size) (rest:=(Builtin.zeroCells zv.cells (grownCap w n 0 e - n)).toList) hG hus h1 e hcap hcm (by
        rw [husl,Array.length_toList,size_zeroCells,hzs,← Nat.add_mul];congr 1;omega)
      have harr:(us++(Builtin.zeroCells zv.cells (grownCap w n 0 e - n)).toList).toArray=us.toArray++Builtin.zeroCells zv.cells (grownCap w n 0 e - n):=by
        apply Array.ext';simp
      rw [harr] at g1 g2 g3
      refine ⟨_,m',_,?_,g1,g2,g3⟩
      cases a with
      | none=>exact hexec _ _ (by rw [hvx];exact run_append_nil (P:=P) w t _ e i zv hu.u h3 h4 ⟨by_,oy,none⟩ n cy us husl hnews hkp (by omega) (by omega))
      | some a =>
        have hg:=run_append_grow (P:=P) w t o.type e i zv hu.u h3 h4 a 0 0 [] (by simp) (by simp) ⟨by_,oy,none⟩ n cy us husl hnews (by omega) (by omega) (growslice_fits (by omega) (by simpa using hkb))
        simp only [Nat.zero_add] at hg
        refine hexec _ _ ?_
        rw [hvx,hg]
        simp
    cases hp with
    | v _ hv' =>
      cases vx with
      | slice a n' c =>
        cases a with
        | none =>
          cases n' with
          | zero =>
            cases c with
            | zero =>
              simp only [Xo] at ha
              cases ha
              exact fresh H hR rfl none rfl
            | succ c=>simp [Xo] at ha
          | succ n'=>simp [Xo] at ha
        | some a=>simp [Xo] at ha
      | _=>simp [Xo] at ha
    | @sl0 id off sz' a =>
      cases off with
      | succ off=>simp [Xo] at ha
      | zero =>
        simp only [Xo] at ha
        split at ha
        · split at ha
          · rename_i B hB
            split at ha
            · rename_i hc
              simp only [Bool.and_eq_true] at hc
              have hlen:=Nat.eq_of_beq_eq_true hc.2
              have hB0:B.cells=[]:=List.eq_nil_of_length_eq_zero (by simpa using hlen)
              cases ha
              rw [hB0]
              have:=fresh (H.set id none) (hR.kill id) (by omega) a rfl
              simpa using this
            · cases ha
          · cases ha
        · cases ha
    | @sl id off len sz' b lim cap hm a1 a2 a3 =>
      cases off with
      | succ off=>simp [Xo] at ha
      | zero =>
        simp only [Xo] at ha
        split at ha
        · rename_i hbq
          have hbq:=Nat.eq_of_beq_eq_true hbq
          split at ha
          · rename_i B hB
            split at ha
            · rename_i hc
              simp only [Bool.and_eq_true] at hc
              obtain ⟨⟨hown,hel⟩,hlen⟩:=hc
              have hel:=Nat.eq_of_beq_eq_true hel
              have hlen:=Nat.eq_of_beq_eq_true hlen
              cases ha
              subst hbq
              obtain ⟨_,⟨cur,c1,c2,c3,c4⟩,hk,_⟩:=hR.blk id B b 0 lim hB hm
              have c1:w.heap[b]?=some (.cells cur B.elem.tid (0,0)):=c1
              rw [hel] at c1
              have hcapsz:cap * i.size≤cur.size:=by rw [c2];simpa using a3
              have hlsz:len * i.size≤cur.size:=Nat.le_trans (Nat.mul_le_mul_right _ a1) hcapsz
              have holdl:(cur.toList.take (len * i.size)).length=len * i.size:=by simp;omega
              have holds:CR m w B.cells (cur.toList.take (len * i.size)):=by
                refine ⟨by rw [holdl,hlen],fun j c hj=>?_⟩
                obtain ⟨u,u1,u2,_⟩:=c4 j c hj
                have hjl:j < len * i.size:=by rw [← hlen];exact (List.getElem?_eq_some_iff.1 hj).1
                exact ⟨u,by rw [List.getElem?_take,if_pos hjl];simpa using u1,u2⟩
              have hB1:(B.cells++xs).all XV=true:=by
                rw [List.all_append,h1,Bool.and_true]
                refine List.all_eq_true.2 fun c hc=>?_
                obtain ⟨j,hj⟩:=List.mem_iff_getElem?.1 hc
                obtain ⟨u,_,u2,u3⟩:=c4 j c hj
                cases c <;> first | rfl | skip
                · cases u2;exact u3
                · cases u2;exact absurd u3 (by simp [Value.oneCell'])
                · cases u2;exact absurd u3 (by simp [Value.oneCell'])
              have happ:=XiH holds hus
              have hfree:∀ (j:Nat) (C:Blk) (dj lj:Nat),(H.set id none)[j]?=some (some C)→C.own=true→m.blk j≠some (b,dj,lj):=fun j C dj lj hj hoj hmj=>by
                rcases XH hj with ⟨_,e⟩ | ⟨n1,e⟩
                · cases e
                · exact ZbC
              by_cases hroom:len+k≤cap
              ·
                have hr:=run_append_room (P:=P) w t o.type e i hu.u h3 b len cap cur c1 ⟨by_,oy,none⟩ k cy us husl hnews h1u hroom (by rw [husl,← Nat.add_mul];exact Nat.le_trans (Nat.mul_le_mul_right _ hroom) hcapsz)
                have hrow:=setRow_heap w b cur ((cur.toList.take (len * i.size)++us++cur.toList.drop (len * i.size+us.length)).toArray) e (0,0) c1
                have hbk:=hk hown
                obtain ⟨q1,q2⟩:=(hR.kill id).world (w':=w.setRow b ((cur.toList.take (len * i.size)++us++cur.toList.drop (len * i.size+us.length)).toArray)) (by simp [World.setRow]) rfl rfl rfl
                  (fun k' hk'=>setRow_other w b k' _ (fun e=>hbk (e ▸ hk'))) (fun j C bj dj lj hj hmj=>setRow_other w b bj _ (fun e=>by
                    subst e
                    cases hoC:C.own with
                    | true=>exact hfree j C dj lj hj hoC hmj
                    | false =>
                      rcases XH hj with ⟨_,e⟩ | ⟨_,e⟩
                      · cases e
                      · exact hbk (hR.rk _ ((hR.blk j C _ dj lj e hmj).2.2.2 hoC))))
                have hsz2:((cur.toList.take (len * i.size)++us++cur.toList.drop (len * i.size+us.length)).toArray).size=lim:=by
                  have:len * i.size+us.length≤cur.size:=by rw [husl,← Nat.add_mul];exact Nat.le_trans (Nat.mul_le_mul_right _ hroom) hcapsz
                  simp only [List.size_toArray,List.length_append,holdl,List.length_drop,Array.length_toList];omega
                obtain ⟨r1,r2⟩:=q1.add (b:=b) (d:=0) (lim:=lim) ⟨B.cells++xs,e,true⟩ ⟨_,hrow,hsz2,by
                    rw [← hsz2];simp only [List.size_toArray,List.length_append,holdl,hlen,hus.1];omega,fun j c hj=>by
                    obtain ⟨u,u1,u2⟩:=happ.2 j c hj
                    refine ⟨u,?_,u2.mono hR.rk q2,Xbx u2 (List.all_eq_true.1 hB1 c (List.mem_of_getElem? hj))⟩
                    simp only [List.getElem?_toArray,Nat.zero_add]
                    rw [List.getElem?_append_left ((List.getElem?_eq_some_iff.1 u1).1)]
                    exact u1⟩ rfl hbk hfree
                refine ⟨.slice (some ⟨b,0,none⟩) (len+k) cap,_,_,hexec _ _ (by simpa using hr),q2.trans r2,r1,?_⟩
                simp only [List.length_set]
                exact .sl (off:=0) (lim:=lim) (by simp) hroom a2 (by simpa using a3)
              ·
                have holdv:∀ (j:Nat) (v:Value),(cur.toList.take (len * i.size))[j]?=some v→w.cell? ((⟨b,0,none⟩:Addr).add j)=some v:=fun j v hj=>by
                  rw [Addr.add_mk,cell_of_row w b _ cur e (0,0) c1]
                  rw [List.getElem?_take] at hj
                  split at hj
                  · simpa using hj
                  · cases hj
                have hkb:(len+k) * i.bytes≤140737488355328:=by rw [hby];exact hb
                have hg:=run_append_grow (P:=P) w t o.type e i zv hu.u h3 h4 ⟨b,0,none⟩ len cap (cur.toList.take (len * i.size)) holdl holdv ⟨by_,oy,none⟩ k cy us husl hnews (by omega) (by omega) (growslice_fits (by omega) hkb)
                have hcap:=grownCap_ge w (len+k) cap e
                have hcm:=grownCap_le_maxLen w (len+k) cap e hmaxn
                obtain ⟨m',g1,g2,g3⟩:=XcS (sz:=i.size) (rest:=(Builtin.zeroCells zv.cells (grownCap w (len+k) cap e - (len+k))).toList) (hR.kill id) happ hB1 e hcap hcm (by
                  rw [List.length_append,holdl,husl,Array.length_toList,size_zeroCells,hzs,← Nat.add_mul,← Nat.add_mul];congr 1;omega)
                have harr:(cur.toList.take (len * i.size)++us++(Builtin.zeroCells zv.cells (grownCap w (len+k) cap e - (len+k))).toList).toArray=(cur.toList.take (len * i.size)).toArray++us.toArray++Builtin.zeroCells zv.cells (grownCap w (len+k) cap e - (len+k)):=by
                  apply Array.ext';simp
                rw [harr] at g1 g2 g3
                exact ZbD
            · cases ha
          · cases ha
        · cases ha
    | _=>simp [Xo] at ha
end
end Go.Th
namespace Go.Th
open Go.RowKit
def RVal (P:Program) (E:Env) (H:Xh):ResultVar→PV→Prop
  | .tmp t,p=>E.get t=some p
  | .cell a t,p=>∃ d i q,P.underlying t=some d∧P.info? t=some i∧E.get a=some q∧Xd2 d i.size H q=some p
theorem Xlc {P:Program} {E:Env} {H:Xh} {a:Tmp} {t:TypeId} {d:TypeDesc} {size bytes:Nat} {z:List Value} {p q:PV} [hu:HasU P t d] [hi:HasI P t size bytes z] (h:E.get a=some q) (hl:Xd2 d size H q=some p):RVal P E H (.cell a t) p:=by
  obtain ⟨i,zv,h1,rfl,_⟩:=hi.i
  exact ⟨d,i,q,hu.u,h1,h,hl⟩
def XqT (P:Program) (E:Env) (H:Xh):List ResultVar→List PV→Prop
  | [],[]=>True
  | r::rs,p::ps=>RVal P E H r p∧XqT P E H rs ps
  | _,_=>False
def Xq5:List PV→PV
  | [p]=>p
  | ps=>.tup ps
def XiX (a:Act):ResultVar→Sem Value
  | .tmp t=>pure (a.tmps.getD t undef)
  | .cell x t=>do loadVar t (← asAddr (a.tmps.getD x undef))
theorem XfR (fn:Func) (a:Act):results fn a.tmps=(do let vs ← fn.results.mapM (XiX a);pure (if h:vs.size=1 then vs[0] else .tuple vs)):=rfl
theorem Xdz {P:Program} {m:Mp} {E:Env} {H:Xh} {a:Act} {w:World} (hR:R m H w) (hF:FR m w E a) {fn:Func} {ps:List PV} (h:XqT P E H fn.results.toList ps) :
    ∃ v,(results fn a.tmps).run P w=.ok v w∧Rep m w (Xq5 ps) v:=by
  have key:∀ (rs:List ResultVar) (ps:List PV),XqT P E H rs ps→∃ vs:List Value,(rs.mapM (XiX a)).run P w=.ok vs w∧CR m w ps vs:=by
    intro rs
    induction rs with
    | nil =>
      intro ps h
      cases ps with
      | nil=>exact ⟨[],by simp,rfl,fun j c hj=>by simp at hj⟩
      | cons p ps=>exact h.elim
    | cons r rs ih =>
      intro ps h
      cases ps with
      | nil=>exact h.elim
      | cons p ps =>
        obtain ⟨h1,h2⟩:=h
        obtain ⟨vs,hv,hc⟩:=ih ps h2
        have hone:∃ v,(XiX a r).run P w=.ok v w∧Rep m w p v:=by
          cases r with
          | tmp t=>exact ⟨_,rfl,hF t p h1⟩
          | cell x t =>
            obtain ⟨d,i,q,hd,hi,hq,hl⟩:=h1
            obtain ⟨ad,u,e,hrun,hr⟩:=XcL hR hd hi (hF x q hq) hl
            exact ⟨u,by simp [XiX,e,asAddr,hrun],hr⟩
        obtain ⟨v,hv1,hr⟩:=hone
        refine ⟨v::vs,?_,by simp [hc.1],fun j c hj=>?_⟩
        · rw [List.mapM_cons]
          simp only [Sem.run_bind,hv1,Result.andThen_ok,hv,Sem.run_pure]
        · cases j with
          | zero=>simp at hj;subst hj;exact ⟨v,rfl,hr⟩
          | succ j=>simpa using hc.2 j c (by simpa using hj)
  obtain ⟨vs,hv,hc⟩:=key _ _ h
  refine ⟨if h:vs.toArray.size=1 then vs.toArray[0] else .tuple vs.toArray,?_,?_⟩
  · rw [XfR,Array.mapM_eq_mapM_toList]
    simp only [Sem.run_bind,Sem.run_map,hv,Result.andThen_ok,Sem.run_pure]
  · by_cases h1:vs.toArray.size=1
    · rw [dif_pos h1]
      have hl:ps.length=1:=by have:=hc.1;simp at h1;omega
      match ps,hl with
      | [p],_ =>
        obtain ⟨u,hu,hr⟩:=hc.2 0 p rfl
        have hvl:vs.length=1:=by simpa using h1
        obtain ⟨x,rfl⟩:=List.length_eq_one_iff.1 hvl
        have:x=u:=by simpa using hu
        subst this
        exact hr
    · rw [dif_neg h1]
      have hl:ps.length≠1:=by have:=hc.1;simp at h1;omega
      have e:Xq5 ps=.tup ps:=by
        match ps,hl with
        | [],_=>rfl
        | [p],h=>exact absurd rfl h
        | _::_::_,_=>rfl
      rw [e]
      refine .tup vs.toArray (by simp [hc.1]) fun j c hj=>?_
      obtain ⟨u,hu,hr⟩:=hc.2 j c hj
      simpa [Array.getD_eq_getD_getElem?,hu] using hr
theorem Xk4 {w:World} {b:Nat} {x y:Option (List Deferred)} (h:w.heap[b]?=some (.deferred x)) (c o:Nat):(w.putObj b (.deferred y)).cell? ⟨c,o,none⟩=w.cell? ⟨c,o,none⟩:=by
  by_cases e:c=b
  · subst e
    have hlt:c < w.heap.size:=(Array.getElem?_eq_some_iff.1 h).1
    simp only [World.cell?,World.putObj_heap_same hlt,h]
  · exact World.cell?_of_block (World.putObj_heap_other e)
theorem Rep.putMark {m:Mp} {w:World} {b:Nat} {x y:Option (List Deferred)} (h:w.heap[b]?=some (.deferred x)) {p:PV} {v:Value} (r:Rep m w p v):Rep m (w.putObj b (.deferred y)) p v :=
  r.mono' (fun _ _ h=>h) (fun _ h=>h) (fun c o _=>Xk4 h c o)
theorem Xh2 {o:Option Obj} {e:Elem} {cur:Array Value} {d:Nat} {x:Option (List Deferred)} (h:XcY o e cur d):o≠Option.some (Obj.deferred x):=by
  rintro rfl
  unfold XcY at h
  split at h
  · cases h
  · obtain ⟨_,_,h,_⟩:=h;cases h
  · obtain ⟨_,_,h,_⟩:=h;cases h
  · obtain ⟨_,_,_,_,h,_⟩:=h;cases h
  · obtain ⟨_,_,_,_,_,_,_,_,_,_,_,_,h,_⟩:=h;cases h
theorem R.putMark {m:Mp} {H:Xh} {w:World} (h:R m H w) {b:Nat} {x y:Option (List Deferred)} (hb:w.heap[b]?=some (.deferred x)):R m H (w.putObj b (.deferred y)):=by
  refine ⟨h.rk,fun c hc=>by simpa using h.kl c hc,h.dom,fun id B c d lim hi hm=>?_,h.inj,h.top⟩
  obtain ⟨h0,⟨cur,h1,h2,h3,h4⟩,h5⟩:=h.blk id B c d lim hi hm
  have hne:c≠b:=fun e=>by subst e;exact Xh2 h1 hb
  exact ⟨h0,⟨cur,by rw [World.putObj_heap_other hne];exact h1,h2,h3,fun j p hj=>let ⟨v,v1,v2,v3⟩:=h4 j p hj;⟨v,v1,v2.putMark hb,v3⟩⟩,h5⟩
theorem XpR {P:Program} {fn:Func} {R':Ending→World→Prop} {m0:Mp} {w0:World} {H:Xh} {E:Env} {a:Act}:∀ (bs:List Nat) (m:Mp) (w:World),bs.Nodup→(∀ b ∈ bs,m.keep b∧¬ m0.keep b∧w.heap[b]?=some (.deferred (some []))) →
    Le m0 w0 m w→R m H w→FR m w E a→(∀ m' w',Le m0 w0 m' w'→R m' H w'→FR m' w' E a→∃ v,(results fn a.tmps).run P w'=.ok v w'∧R' (.returned v) w') →
    LeavesInM Fence.wide 0 P fn a.tmps R' (bs.map fun b=>{ target:=.collected b,args:=#[] }) .returning w
  | [],m,w,_,_,hl,hR,hF,k=>by
    obtain ⟨v,h1,h2⟩:=k m w hl hR hF
    exact ⟨v,h1,h2⟩
  | b::bs,m,w,hn,hb,hl,hR,hF,k=>by
    rw [List.nodup_cons] at hn
    obtain ⟨h1,h2,h3⟩:=hb b (by simp)
    refine ⟨by simp,.inl ⟨b,_,rfl,run_takeDeferred h3,?_⟩⟩
    refine XpR bs m _ hn.2 (fun c hc=>?_) ?_ (hR.putMark h3) (fun t p ht=>(hF t p ht).putMark h3) k
    · obtain ⟨c1,c2,c3⟩:=hb c (by simp [hc])
      have hne:c≠b:=fun e=>hn.1 (e ▸ hc)
      exact ⟨c1,c2,(World.putObj_heap_other hne).trans c3⟩
    · exact ⟨hl.blk,hl.ro,hl.keep,fun c hc=>(World.putObj_heap_other (fun e:c=b=>h2 (by rw [← e];exact hc))).trans (hl.same c hc),by simpa using hl.size,hl.os,hl.tape,hl.output,hl.fresh,hl.top,hl.old⟩
theorem XhG {P:Program} {f:FuncId} {fn:Func} {c:Code} {args:Array Value} {w:World} {R':Ending→World→Prop} {Q:QA} {n:Nat} {m0:Mp} (hf:P.funcs[f]?=some fn) (hb:fn.body=some c)
    (h:c.wpIn (fen none) 0 P (Qr none m0 w n Q) { tmps:=args++Array.replicate (fn.ntmps - args.size) undef,defers:=[] } w)
    (k:∀ e E H,Q e E H→(e=.normal∨e=.ret)∧∀ a m' w',Le m0 w m' w'→R m' H w'→FR m' w' E a→∃ v,(results fn a.tmps).run P w'=.ok v w'∧R' (.returned v) w'):Calls P f args w R':=by
  refine callsIn_wide.1 (callsIn_of_wp_marks (n:=0) hf hb trivial (wpIn_mono h ?_) rfl)
  rintro e a w' ⟨E,H,hq,_,_,m,⟨hl,bs,b1,b2,b3⟩,hR,hF⟩
  obtain ⟨he,hk⟩:=k e E H hq
  rcases he with rfl | rfl
  · show LeavesInM _ _ _ _ _ _ a.defers _ _
    rw [b2]
    exact XpR bs m w' b1 b3 hl hR hF (fun m' w' h1 h2 h3=>hk a m' w' h1 h2 h3)
  · show LeavesInM _ _ _ _ _ _ a.defers _ _
    rw [b2]
    exact XpR bs m w' b1 b3 hl hR hF (fun m' w' h1 h2 h3=>hk a m' w' h1 h2 h3)
def XrN (P:Program) (fn:Func) (Q:PV→Xh→Prop):QA:=fun e E H=>(e=.normal∨e=.ret)∧∃ ps,XqT P E H fn.results.toList ps∧Q (Xq5 ps) H
theorem Xw {P:Program} {f:FuncId} {fn:Func} {c:Code} {args:List PV} {H:Xh} {Q:PV→Xh→Prop} (hf:P.funcs[f]?=some fn) (hb:fn.body=some c) (hname:(fn.name == "runtime.NumGoroutine")=false)
    (hsz:Nat.ble args.length fn.ntmps=true) (h:wpA P fn.ntmps c (XrN P fn Q) (XbG 0 args) H):AC P f args H Q:=by
  refine ⟨⟨fn,hf,hname,by rw [hb];rfl⟩,fun m w vals hR hv=>?_⟩
  have hsz:=Nat.le_of_ble_eq_true hsz
  have hvs:vals.size=args.length:=hv.1
  refine XhG hf hb (h none m w _ w ⟨by simp;omega,RdK.none _ _,m,LeD.refl m w,hR,fun t p ht=>?_⟩) ?_
  · obtain ⟨_,ht'⟩:=Xce args 0 t p ht
    simp only [Nat.sub_zero] at ht'
    have hlt:t < vals.size:=by rw [hvs];exact (List.getElem?_eq_some_iff.1 ht').1
    have:=hv.2 t p ht'
    simpa [Array.getD_eq_getD_getElem?,Array.getElem?_append_left hlt] using this
  · rintro e E' H' ⟨he,ps,hps,hq⟩
    refine ⟨he,fun a m' w' hle hR' hF'=>?_⟩
    obtain ⟨v,hrun,hr⟩:=Xdz hR' hF' hps
    exact ⟨v,hrun,v,_,H',m',rfl,hq,hr,hR',hle⟩
def Xi (p:PV):Prop:=∀ m w v,Rep m w p v→Rep { m with blk:=fun _=>none } w p v
theorem Xi.v (x:Value):Xi (.v x):=fun m w v h=>by cases h with | v _ hx=>exact .v _ hx
theorem Xi.tr {cells:List PV} {len sz:Nat} (h:∀ c ∈ cells,Xi c):Xi (.tr cells len sz):=fun m w v hr=>by
  cases hr with
  | tr f a b c d e g=>exact .tr f a b c d e fun j q hj=>h q (List.mem_of_getElem? hj) m w _ (g j q hj)
  | tr0 a b=>exact .tr0 a b
  | trn=>exact .trn
theorem Xi.ept {cells:List PV} {off:Nat} (h:∀ c ∈ cells,Xi c):Xi (.ept cells off):=fun m w v hr=>by
  cases hr with
  | ept f a b c=>exact .ept f a b fun j q hj=>h q (List.mem_of_getElem? hj) m w _ (c j q hj)
theorem Xi.agg {cells:List PV} (h:∀ c ∈ cells,Xi c):Xi (.agg cells):=fun m w v hr=>by
  cases hr with
  | agg vs a b=>exact .agg vs a fun j q hj=>h q (List.mem_of_getElem? hj) m w _ (b j q hj)
theorem Xi.tup {cells:List PV} (h:∀ c ∈ cells,Xi c):Xi (.tup cells):=fun m w v hr=>by
  cases hr with
  | tup vs a b=>exact .tup vs a fun j q hj=>h q (List.mem_of_getElem? hj) m w _ (b j q hj)
theorem Xi.fn {f:Fn} {cells:List PV} (h:∀ c ∈ cells,Xi c):Xi (.fn f cells):=fun m w v hr=>by
  cases hr with
  | fn vs a b=>exact .fn vs a fun j q hj=>h q (List.mem_of_getElem? hj) m w _ (b j q hj)
theorem Xp:∀ c ∈ ([]:List PV),Xi c:=fun _ h=>by cases h
theorem Xa {p:PV} {ps:List PV} (h:Xi p) (k:∀ c ∈ ps,Xi c):∀ c ∈ p::ps,Xi c:=fun c hc=>by
  rcases List.mem_cons.1 hc with rfl | h'
  · exact h
  · exact k c h'
inductive Conv (H:Xh):PV→PV→Prop
  | refl (p:PV):Conv H p p
  | sl {id off len sz:Nat} {B:Blk} {cs ds:List PV} (hB:H[id]?=some (some B)) (h:Xai (len * sz) (B.cells.drop off)=some cs) (hl:ds.length=cs.length) (hc:∀ (j:Nat) (c d:PV),cs[j]?=some c→ds[j]?=some d→Conv H c d) :
      Conv H (.sl id off len sz) (.tr ds len sz)
  | agg {cs ds:List PV} (hl:ds.length=cs.length) (hc:∀ (j:Nat) (c d:PV),cs[j]?=some c→ds[j]?=some d→Conv H c d):Conv H (.agg cs) (.agg ds)
  | tup {cs ds:List PV} (hl:ds.length=cs.length) (hc:∀ (j:Nat) (c d:PV),cs[j]?=some c→ds[j]?=some d→Conv H c d):Conv H (.tup cs) (.tup ds)
def closed (m:Mp) (H:Xh):Mp:={ m with ro:=fun b=>m.ro b∨∃ id B d lim,H[id]?=some (some B)∧m.blk id=some (b,d,lim),keep:=fun b=>m.keep b∨∃ id B d lim,H[id]?=some (some B)∧m.blk id=some (b,d,lim) }
theorem XfD {m:Mp} {H:Xh} {w:World} (h:R m H w):Le m w (closed m H) w :=
  ⟨fun _ _ h=>h,fun _ h=>.inl h,fun _ h=>.inl h,fun _ _=>rfl,Nat.le_refl _,rfl,rfl,rfl,fun b hb=>by
    rcases hb with hb | ⟨id,B,d,lim,hB,hm⟩
    · exact .inl hb
    · obtain ⟨_,_,h1,h2⟩:=h.blk id B b d lim hB hm
      cases ho:B.own with
      | true=>exact .inr (h1 ho)
      | false=>exact .inl (h2 ho),rfl,fun _ _=>rfl⟩
theorem Conv.rep {m:Mp} {H:Xh} {w:World} (h:R m H w) {p q:PV} (hc:Conv H p q):∀ {v:Value},Rep (closed m H) w p v→Rep (closed m H) w q v:=by
  induction hc with
  | refl p=>exact fun hr=>hr
  | @sl id off len sz B cs ds hB ht hl hc ih =>
    intro v hr
    obtain ⟨t1,rfl⟩:=(Xaq _ _ _).1 ht
    have hcl:((B.cells.drop off).take (len * sz)).length=len * sz:=by simp only [List.length_take];omega
    cases hr with
    | @sl _ _ _ _ b lim cap hm a1 a2 a3 =>
      obtain ⟨_,⟨cur,c1,c2,c3,c4⟩,_⟩:=h.blk id B b 0 lim hB hm
      refine .tr (b:=b) (o:=0+off) (fun j=>cur.getD (0+off+j) undef) (.inr ⟨id,B,0,lim,hB,hm⟩) (by omega) a1 a2 (fun j q hj=>?_) (fun j q hj=>?_)
      all_goals
        have hlt:j < ((B.cells.drop off).take (len * sz)).length:=by rw [← hl];exact (List.getElem?_eq_some_iff.1 hj).1
        have hj':=List.getElem?_eq_getElem hlt
        have hj2:=hj'
        rw [List.getElem?_take,if_pos (by omega),List.getElem?_drop] at hj2
        obtain ⟨u,u1,u2,_⟩:=c4 _ _ hj2
        have u1':cur[0+off+j]?=some u:=by rw [Nat.add_assoc];exact u1
        have hg:cur.getD (0+off+j) undef=u:=by rw [Array.getD_eq_getD_getElem?,u1'];rfl
      · rw [cell_of_row w b _ cur B.elem.tid (0,0) c1,u1',hg]
      · simp only [hg]
        exact ih j _ q hj' hj (u2.mono h.rk (XfD h))
    | sl0 a =>
      have hds:ds=[]:=List.eq_nil_of_length_eq_zero (by rw [hl];simp)
      subst hds
      cases a with
      | some a=>exact .tr0 a (by simp [maxLen])
      | none=>exact .trn
  | agg hl hc ih =>
    intro v hr
    cases hr with
    | agg vs a b =>
      refine .agg vs (a.trans hl.symm) fun j q hj=>?_
      have hlt:=(List.getElem?_eq_some_iff.1 hj).1
      rw [hl] at hlt
      exact ih j _ q (List.getElem?_eq_getElem hlt) hj (b j _ (List.getElem?_eq_getElem hlt))
  | tup hl hc ih =>
    intro v hr
    cases hr with
    | tup vs a b =>
      refine .tup vs (a.trans hl.symm) fun j q hj=>?_
      have hlt:=(List.getElem?_eq_some_iff.1 hj).1
      rw [hl] at hlt
      exact ih j _ q (List.getElem?_eq_getElem hlt) hj (b j _ (List.getElem?_eq_getElem hlt))
def Iso (P:Program) (f:FuncId) (args:List PV) (Q:PV→Prop):Prop :=
  (∃ fn,P.funcs[f]?=some fn∧(fn.name == "runtime.NumGoroutine")=false∧fn.body.isNone=false) ∧
  ∀ m w vals,(∀ b,m.ro b→m.keep b)→(∀ b,m.keep b→b < w.heap.size)→(∀ id,m.blk id=none)→XeK m w args vals →
    Calls P f vals w fun e w'=>∃ v p m',e=.returned v∧Q p∧Rep m' w' p v∧(∀ id,m'.blk id=none)∧Le m w m' w'∧(∀ b,m'.ro b→m'.keep b)∧(∀ b,m'.keep b→b < w'.heap.size)
def XlF (P:Program) (fn:Func) (Q:PV→Prop):QA:=fun e E H=>(e=.normal∨e=.ret)∧∃ ps q,XqT P E H fn.results.toList ps∧Conv H (Xq5 ps) q∧Xi q∧Q q
theorem Xb {P:Program} {f:FuncId} {fn:Func} {c:Code} {args:List PV} {Q:PV→Prop} (hf:P.funcs[f]?=some fn) (hb:fn.body=some c) (hname:(fn.name == "runtime.NumGoroutine")=false)
    (hsz:Nat.ble args.length fn.ntmps=true) (h:wpA P fn.ntmps c (XlF P fn Q) (XbG 0 args) []):Iso P f args Q:=by
  refine ⟨⟨fn,hf,hname,by rw [hb];rfl⟩,fun m w vals h1 h2 h3 hv=>?_⟩
  have hR:R { m with top:=0 } [] w:=R.nil h1 h2 h3 rfl
  have hv:XeK { m with top:=0 } w args vals:=⟨hv.1,fun j c hj=>Rep.mono' (m:=m) (m':={ m with top:=0 }) (w':=w) (fun _ _ h=>h) (fun _ h=>h) (fun _ _ _=>rfl) (hv.2 j c hj)⟩
  have hsz:=Nat.le_of_ble_eq_true hsz
  have hvs:vals.size=args.length:=hv.1
  refine XhG hf hb (h none { m with top:=0 } w _ w ⟨by simp;omega,RdK.none _ _,{ m with top:=0 },LeD.refl _ w,hR,fun t p ht=>?_⟩) ?_
  · obtain ⟨_,ht'⟩:=Xce args 0 t p ht
    simp only [Nat.sub_zero] at ht'
    have hlt:t < vals.size:=by rw [hvs];exact (List.getElem?_eq_some_iff.1 ht').1
    have:=hv.2 t p ht'
    simpa [Array.getD_eq_getD_getElem?,Array.getElem?_append_left hlt] using this
  · rintro e E' H' ⟨he,ps,q,hps,hconv,htree,hq⟩
    refine ⟨he,fun a m' w' hle hR' hF'=>?_⟩
    obtain ⟨v,hrun,hr⟩:=Xdz hR' hF' hps
    have hcl:=XfD hR'
    have hrep:=htree _ w' v (hconv.rep hR' (hr.mono hR'.rk hcl))
    have hle2:=hle.trans hcl
    have fin:∃ v1 p m',Ending.returned v=.returned v1∧Q p∧Rep m' w' p v1∧(∀ id,m'.blk id=none)∧Le m w m' w'∧(∀ b,m'.ro b→m'.keep b)∧(∀ b,m'.keep b→b < w'.heap.size):=by
      refine ⟨v,q,{ closed m' H' with blk:=fun _=>none,top:=m.top },rfl,hq,Rep.mono' (m:={ closed m' H' with blk:=fun _=>none }) (m':={ closed m' H' with blk:=fun _=>none,top:=m.top }) (w:=w') (w':=w') (fun _ _ h=>h) (fun _ h=>h) (fun _ _ _=>rfl) hrep,fun _=>rfl,?_,fun b hb=>?_,fun b hb=>?_⟩
      · exact ⟨(fun id x hx=>by rw [h3 id] at hx;cases hx),hle2.ro,hle2.keep,hle2.same,hle2.size,hle2.os,hle2.tape,hle2.output,hle2.fresh,rfl,fun id _=>(h3 id).symm⟩
      · rcases hb with hb | hb
        · exact .inl (hR'.rk b hb)
        · exact .inr hb
      · rcases hb with hb | ⟨id,B,d,lim,hB,hm⟩
        · exact hR'.kl b hb
        · exact hR'.lt hB hm
    exact ⟨v,hrun,fin⟩
section
variable {P:Program} {n:Nat} {Q:QA} {E:Env} {H:Xh} {ops:Array Oper} {rest:List Oper}
theorem Iso.mono {f:FuncId} {args:List PV} {Q Q':PV→Prop} (h:Iso P f args Q) (hq:∀ p,Q p→Q' p):Iso P f args Q' :=
  ⟨h.1,fun m w vals h1 h2 h3 h4=>(h.2 m w vals h1 h2 h3 h4).mono fun _ _ ⟨v,p,m',a,b,c⟩=>⟨v,p,m',a,hq _ b,c⟩⟩
theorem Iso.AC {f:FuncId} {args:List PV} {Q:PV→Prop} (h:Iso P f args Q) (ht:∀ c ∈ args,Xi c):AC P f args H (fun p H'=>Q p∧H'=H):=by
  refine ⟨h.1,fun m w vals hR hv=>?_⟩
  have hv':XeK { blk:=fun _=>none,ro:=m.ro,keep:=fun b=>b < w.heap.size } w args vals:=⟨hv.1,fun j c hj=>by
    have h1:=ht c (List.mem_of_getElem? hj) m w _ (hv.2 j c hj)
    exact Rep.mono' (m:={ m with blk:=fun _=>none }) (m':={ blk:=fun _=>none,ro:=m.ro,keep:=fun b=>b < w.heap.size }) (w':=w) (fun _ _ h=>h) (fun _ h=>h) (fun _ _ _=>rfl) h1⟩
  refine (h.2 { blk:=fun _=>none,ro:=m.ro,keep:=fun b=>b < w.heap.size } w vals (fun b hb=>hR.kl b (hR.rk b hb)) (fun b hb=>hb) (fun _=>rfl) hv').mono ?_
  rintro e w' ⟨v,p,m',rfl,hq,hr,hn,hle,hk1,hk2⟩
  have hfresh:∀ b,m'.ro b→m.ro b∨w.heap.size≤b:=fun b hb=>(hle.fresh b hb).elim .inl (fun h=>.inr (Nat.le_of_not_lt h))
  have hsame:∀ b,b < w.heap.size→w'.heap[b]?=w.heap[b]?:=fun b hb=>hle.same b hb
  have hlek:Le m w { blk:=m.blk,ro:=m'.ro,keep:=fun b=>m.keep b∨m'.ro b,top:=m.top } w' :=
    ⟨fun _ _ h=>h,fun b hb=>hle.ro b hb,fun b hb=>.inl hb,fun b hb=>hsame b (hR.kl b hb),hle.size,hle.os,hle.tape,hle.output,fun b hb=>(hfresh b hb).elim .inl (fun h1=>.inr fun h2=>by have:=hR.kl b h2;omega),rfl,fun _ _=>rfl⟩
  refine ⟨v,p,H,{ blk:=m.blk,ro:=m'.ro,keep:=fun b=>m.keep b∨m'.ro b,top:=m.top },rfl,⟨hq,rfl⟩,?_,?_,hlek⟩
  · refine Rep.mono' (m:=m') (m':={ blk:=m.blk,ro:=m'.ro,keep:=fun b=>m.keep b∨m'.ro b,top:=m.top }) (w:=w') (w':=w') (fun id x hx=>?_) (fun _ h=>h) (fun _ _ _=>rfl) hr
    rw [hn id] at hx;cases hx
  · refine ⟨fun b hb=>.inr hb,fun b hb=>?_,hR.dom,fun id B b d lim hi hm=>?_,hR.inj,hR.top⟩
    · rcases hb with hb | hb
      · have:=hR.kl b hb;have:=hle.size;omega
      · exact hk2 b (hk1 b hb)
    · obtain ⟨h0,⟨cur,c1,c2,c3,c4⟩,h5,h6⟩:=hR.blk id B b d lim hi hm
      have hlt:=hR.lt hi hm
      refine ⟨h0,⟨cur,by rw [hsame b hlt];exact c1,c2,c3,fun j c hj=>let ⟨u,u1,u2,u3⟩:=c4 j c hj;⟨u,u1,u2.mono hR.rk hlek,u3⟩⟩,fun ho hk=>?_,fun ho=>hle.ro b (h6 ho)⟩
      rcases hk with hk | hk
      · exact h5 ho hk
      · rcases hfresh b hk with hk | hk
        · exact h5 ho (hR.rk b hk)
        · omega
theorem XtF {o:Oper} {c:Call} {x:Operand} {g:FuncId} {cap args:List PV} {QC:PV→Prop} (hg:o.guard=none) (ho:o.op=.call c) (hc:c.callee=.value x) (hx:E.ev x=some (.fn (.func g) cap))
    (ha:evs E c.args.toList=some args) (h:Iso P g (args++cap) QC) (ht:∀ c ∈ args++cap,Xi c)
    (hd:match o.dst with | some d=>d < n | none=>True)
    (k:∀ p,QC p→wpL P n ops rest Q (match o.dst with | some d=>(d,p)::E | none=>E) H):wpL P n ops (o::rest) Q E H :=
  XmT hg ho hc hx ha (h.AC ht) hd fun p _ ⟨hq,e⟩=>e ▸ k p hq
end
end Go.Th
