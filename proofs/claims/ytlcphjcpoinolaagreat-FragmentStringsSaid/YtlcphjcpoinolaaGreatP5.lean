/- Part of the proof: the walk over the program and its laws: EvA. -/
import Derived.WalkKit
import Derived.Test.YtlcphjcpoinolaaGreatP0
set_option linter.unusedVariables false
namespace Go.Ev
inductive BT (α:Type) where
  | leaf
  | node (l:BT α) (v:Option α) (r:BT α)
  deriving Inhabited
def BT.get {α:Type}:BT α→Nat→Option α
  | .leaf,_=>none
  | .node l v r,n=>match n with
    | 0=>v
    | k+1=>match Nat.beq (k % 2) 0 with
      | true=>l.get (k / 2)
      | false=>r.get (k / 2)
def BT.setF {α:Type}:Nat→BT α→Nat→Option α→BT α
  | 0,t,_,_=>t
  | f+1,.leaf,n,a=>match n with
    | 0=>.node .leaf a .leaf
    | k+1=>match Nat.beq (k % 2) 0 with
      | true=>.node (BT.setF f .leaf (k / 2) a) none .leaf
      | false=>.node .leaf none (BT.setF f .leaf (k / 2) a)
  | f+1,.node l v r,n,a=>match n with
    | 0=>.node l a r
    | k+1=>match Nat.beq (k % 2) 0 with
      | true=>.node (BT.setF f l (k / 2) a) v r
      | false=>.node l v (BT.setF f r (k / 2) a)
def BT.set {α:Type} (t:BT α) (n:Nat) (a:Option α):BT α:=t.setF (n+1) n a
theorem BT.get_setF {α:Type} (a:Option α):∀ (f:Nat) (t:BT α) (n m:Nat),n < f→(t.setF f n a).get m=if n=m then a else t.get m
  | 0,t,n,m,h=>by omega
  | f+1,.leaf,n,m,h=>by
    cases n with
    | zero =>
      simp only [BT.setF]
      cases m with
      | zero=>simp [BT.get]
      | succ k=>simp only [BT.get];split <;> simp
    | succ k =>
      have ih:=fun t j=>BT.get_setF a f t (k / 2) j (by omega)
      simp only [BT.setF]
      cases hk:Nat.beq (k % 2) 0 with
      | true =>
        have hk:=Nat.eq_of_beq_eq_true hk
        cases m with
        | zero=>simp [BT.get]
        | succ j =>
          simp only [BT.get]
          cases hj:Nat.beq (j % 2) 0 with
          | true =>
            have hj:=Nat.eq_of_beq_eq_true hj
            simp only [ih]
            by_cases e:k / 2=j / 2
            · rw [if_pos e,if_pos (by omega)]
            · rw [if_neg e,if_neg (by omega)];simp [BT.get]
          | false =>
            have hj:=Nat.ne_of_beq_eq_false hj
            rw [if_neg (by omega)]
      | false =>
        have hk:=Nat.ne_of_beq_eq_false hk
        cases m with
        | zero=>simp [BT.get]
        | succ j =>
          simp only [BT.get]
          cases hj:Nat.beq (j % 2) 0 with
          | true =>
            have hj:=Nat.eq_of_beq_eq_true hj
            rw [if_neg (by omega)]
          | false =>
            have hj:=Nat.ne_of_beq_eq_false hj
            simp only [ih]
            by_cases e:k / 2=j / 2
            · rw [if_pos e,if_pos (by omega)]
            · rw [if_neg e,if_neg (by omega)];simp [BT.get]
  | f+1,.node l v r,n,m,h=>by
    cases n with
    | zero =>
      simp only [BT.setF]
      cases m with
      | zero=>simp [BT.get]
      | succ k=>simp [BT.get]
    | succ k =>
      have ih:=fun t j=>BT.get_setF a f t (k / 2) j (by omega)
      simp only [BT.setF]
      cases hk:Nat.beq (k % 2) 0 with
      | true =>
        have hk:=Nat.eq_of_beq_eq_true hk
        cases m with
        | zero=>simp [BT.get]
        | succ j =>
          simp only [BT.get]
          cases hj:Nat.beq (j % 2) 0 with
          | true =>
            have hj:=Nat.eq_of_beq_eq_true hj
            simp only [ih]
            by_cases e:k / 2=j / 2
            · rw [if_pos e,if_pos (by omega)]
            · rw [if_neg e,if_neg (by omega)]
          | false =>
            have hj:=Nat.ne_of_beq_eq_false hj
            rw [if_neg (by omega)]
      | false =>
        have hk:=Nat.ne_of_beq_eq_false hk
        cases m with
        | zero=>simp [BT.get]
        | succ j =>
          simp only [BT.get]
          cases hj:Nat.beq (j % 2) 0 with
          | true =>
            have hj:=Nat.eq_of_beq_eq_true hj
            rw [if_neg (by omega)]
          | false =>
            have hj:=Nat.ne_of_beq_eq_false hj
            simp only [ih]
            by_cases e:k / 2=j / 2
            · rw [if_pos e,if_pos (by omega)]
            · rw [if_neg e,if_neg (by omega)]
theorem BT.get_set {α:Type} (t:BT α) (n m:Nat) (a:Option α):(t.set n a).get m=if n=m then a else t.get m:=BT.get_setF a (n+1) t n m (Nat.lt_succ_self n)
structure HP (α:Type) where
  n:Nat
  t:BT α
def HP.get {α:Type} (h:HP α) (i:Nat):Option α:=match Nat.blt i h.n with
  | true=>h.t.get i
  | false=>none
def HP.set {α:Type} (h:HP α) (i:Nat) (a:Option α):HP α:=⟨h.n,h.t.set i a⟩
def HP.push {α:Type} (h:HP α) (a:Option α):HP α:=⟨h.n+1,h.t.set h.n a⟩
def HP.list {α:Type} (h:HP α):List (Option α):=(List.range h.n).map h.t.get
theorem HP.list_get {α:Type} (h:HP α) (i:Nat):h.list[i]?=if i < h.n then some (h.t.get i) else none:=by
  unfold HP.list
  rw [List.getElem?_map]
  by_cases e:i < h.n
  · rw [if_pos e,List.getElem?_range e];rfl
  · rw [if_neg e,List.getElem?_eq_none (by simpa using e)];rfl
theorem HP.list_length {α:Type} (h:HP α):h.list.length=h.n:=by simp [HP.list]
theorem HP.get_eq {α:Type} (h:HP α) (i:Nat):h.get i=(h.list[i]?).join:=by
  rw [HP.list_get]
  unfold HP.get
  cases e:Nat.blt i h.n with
  | true =>
    have:i < h.n:=Nat.lt_of_lt_of_le (Nat.lt_succ_self i) (Nat.le_of_ble_eq_true e)
    rw [if_pos this];rfl
  | false =>
    have:¬ i < h.n:=fun hlt=>by
      have:Nat.blt i h.n=true:=Nat.ble_eq_true_of_le hlt
      rw [e] at this;cases this
    rw [if_neg this];rfl
theorem HP.get_some {α:Type} {h:HP α} {i:Nat} {a:α} (hg:h.get i=some a):h.list[i]?=some (some a):=by
  rw [HP.get_eq] at hg
  cases e:h.list[i]? with
  | none=>rw [e] at hg;cases hg
  | some x=>rw [e] at hg;simp at hg;rw [hg]
theorem HP.list_set {α:Type} (h:HP α) (i:Nat) (a:Option α):(h.set i a).list=h.list.set i a:=by
  apply List.ext_getElem?
  intro j
  rw [HP.list_get]
  simp only [HP.set,BT.get_set]
  by_cases e:i=j
  · subst e
    rw [if_pos rfl]
    by_cases hlt:i < h.n
    · rw [if_pos hlt,List.getElem?_set_self (by rw [HP.list_length];exact hlt)]
    · rw [if_neg hlt,List.getElem?_eq_none (by simp [HP.list_length];omega)]
  · rw [if_neg e,List.getElem?_set_ne e,HP.list_get]
theorem HP.list_push {α:Type} (h:HP α) (a:Option α):(h.push a).list=h.list++[a]:=by
  apply List.ext_getElem?
  intro j
  rw [HP.list_get]
  simp only [HP.push,BT.get_set]
  rcases Nat.lt_trichotomy j h.n with hlt | rfl | hgt
  · rw [if_pos (by omega),if_neg (by omega),List.getElem?_append_left (by rw [HP.list_length];exact hlt),HP.list_get,if_pos hlt]
  · rw [if_pos (by omega),if_pos rfl,List.getElem?_append_right (by rw [HP.list_length];exact Nat.le_refl _),HP.list_length];simp
  · rw [if_neg (by omega),List.getElem?_eq_none (by simp [HP.list_length];omega)]
end Go.Ev
namespace Go.Ev
open Go.RowKit
inductive PV where
  | v (x:Value)
  | ptr (id off:Nat)
  | ept (cells:List PV) (off:Nat)
  | sl (id off len sz:Nat)
  | sx (id off len sz:Nat)
  | yld (id:Nat)
  | mp (id:Nat)
  | it (id:Nat)
  | tr (cells:List PV) (len sz:Nat)
  | fn (f:Fn) (cap:List PV)
  | agg (cells:List PV)
  | tup (vs:List PV)
  deriving Inhabited
structure Blk where
  cells:List PV
  elem:TypeId
  own:Bool
abbrev Xh:=List (Option Blk)
structure Mp where
  blk:Nat→Option (Nat × Nat × Nat)
  xb:Nat→Option Nat
  ro:Nat→Prop
  keep:Nat→Prop
  top:Nat
def Xe3:Value→Bool
  | .agg _=>false
  | _=>true
inductive Rep (m:Mp) (w:World):PV→Value→Prop
  | v (x:Value) (h:Xe3 x=true):Rep m w (.v x) x
  | ptr {id off b d lim:Nat} (h:m.blk id=some (b,d,lim)):Rep m w (.ptr id off) (.pointer (some ⟨b,d+off,none⟩))
  | ept {cells:List PV} {off b o:Nat} (f:Nat→Value) (hr:m.ro b) (hc:∀ j c,cells[j]?=some c→w.cell? ⟨b,o+j,none⟩=some (f j))
      (h:∀ j c,cells[j]?=some c→Rep m w c (f j)):Rep m w (.ept cells off) (.pointer (some ⟨b,o+off,none⟩))
  | sl {id off len sz b d lim cap:Nat} (h:m.blk id=some (b,d,lim)) (h1:len≤cap) (h2:cap≤maxLen) (h3:d+off+cap * sz≤lim) :
      Rep m w (.sl id off len sz) (.slice (some ⟨b,d+off,none⟩) len cap)
  | sl0 {id off sz:Nat} (a:Option Addr):Rep m w (.sl id off 0 sz) (.slice a 0 0)
  | sx {id off len sz b d lim:Nat} (h:m.blk id=some (b,d,lim)) (h2:len≤maxLen) (h3:d+off+len * sz≤lim) :
      Rep m w (.sx id off len sz) (.slice (some ⟨b,d+off,none⟩) len len)
  | sx0 {id off sz:Nat} (a:Addr):Rep m w (.sx id off 0 sz) (.slice (some a) 0 0)
  | yld {id b:Nat} (h:m.xb id=some b):Rep m w (.yld id) (.func (.yield b) #[] #[])
  | mp {id b:Nat} (h:m.xb id=some b):Rep m w (.mp id) (.map (some b))
  | it {id b:Nat} (h:m.xb id=some b):Rep m w (.it id) (.pointer (some ⟨b,0,none⟩))
  | tr {cells:List PV} {len sz b o cap:Nat} (f:Nat→Value) (hr:m.ro b) (hl:cells.length=len * sz) (h1:len≤cap) (h2:cap≤maxLen)
      (hc:∀ j c,cells[j]?=some c→w.cell? ⟨b,o+j,none⟩=some (f j)) (h:∀ j c,cells[j]?=some c→Rep m w c (f j)):Rep m w (.tr cells len sz) (.slice (some ⟨b,o,none⟩) len cap)
  | tr0 {sz cap:Nat} (a:Addr) (h2:cap≤maxLen):Rep m w (.tr [] 0 sz) (.slice (some a) 0 cap)
  | trn {sz:Nat}:Rep m w (.tr [] 0 sz) (.slice none 0 0)
  | fn {f:Fn} {cap:List PV} (vs:Array Value) (hl:vs.size=cap.length) (h:∀ j c,cap[j]?=some c→Rep m w c (vs.getD j undef)):Rep m w (.fn f cap) (.func f #[] vs)
  | agg {cells:List PV} (vs:Array Value) (hl:vs.size=cells.length) (h:∀ j c,cells[j]?=some c→Rep m w c (vs.getD j undef)):Rep m w (.agg cells) (.agg vs)
  | tup {cells:List PV} (vs:Array Value) (hl:vs.size=cells.length) (h:∀ j c,cells[j]?=some c→Rep m w c (vs.getD j undef)):Rep m w (.tup cells) (.tuple vs)
structure Le (m:Mp) (w:World) (m':Mp) (w':World):Prop where
  blk:∀ id x,m.blk id=some x→m'.blk id=some x
  xb:m'.xb=m.xb
  ro:m'.ro=m.ro
  keep:m'.keep=m.keep
  same:∀ b,m.keep b→w'.heap[b]?=w.heap[b]?
  size:w.heap.size≤w'.heap.size
  os:w'.os=w.os
  tape:w'.tape=w.tape
  output:w'.output=w.output
  top:m'.top=m.top
  old:∀ id,id < m.top→m'.blk id=m.blk id
theorem Le.refl (m:Mp) (w:World):Le m w m w:=⟨fun _ _ h=>h,rfl,rfl,rfl,fun _ _=>rfl,Nat.le_refl _,rfl,rfl,rfl,rfl,fun _ _=>rfl⟩
theorem Le.trans {m m1 m2:Mp} {w w1 w2:World} (h:Le m w m1 w1) (k:Le m1 w1 m2 w2):Le m w m2 w2 :=
  ⟨fun i x hx=>k.blk i x (h.blk i x hx),k.xb.trans h.xb,k.ro.trans h.ro,k.keep.trans h.keep,fun b hb=>(k.same b (by rw [h.keep];exact hb)).trans (h.same b hb),
    Nat.le_trans h.size k.size,k.os.trans h.os,k.tape.trans h.tape,k.output.trans h.output,k.top.trans h.top,fun id hid=>(k.old id (by rw [h.top];exact hid)).trans (h.old id hid)⟩
theorem Le.cell {m m':Mp} {w w':World} (h:Le m w m' w') {b o:Nat} (hb:m.keep b):w'.cell? ⟨b,o,none⟩=w.cell? ⟨b,o,none⟩ :=
  World.cell?_of_block (w:=w) (w':=w') (a:=⟨b,o,none⟩) (h.same b hb)
theorem Rep.mono' {m m':Mp} {w w':World} (hb:∀ id x,m.blk id=some x→m'.blk id=some x) (hxb:∀ id b,m.xb id=some b→m'.xb id=some b) (hro:∀ b,m.ro b→m'.ro b) (hcell:∀ (b o:Nat),m.ro b→w'.cell? ⟨b,o,none⟩=w.cell? ⟨b,o,none⟩) {p:PV} {v:Value} (r:Rep m w p v):Rep m' w' p v:=by
  induction r with
  | v x hx=>exact .v x hx
  | ptr h=>exact .ptr (hb _ _ h)
  | ept f hr hc _ ih=>exact .ept f (hro _ hr) (fun j c hj=>(hcell _ _ hr).trans (hc j c hj)) ih
  | sl h h1 h2 h3=>exact .sl (hb _ _ h) h1 h2 h3
  | sl0 a=>exact .sl0 a
  | sx h h2 h3=>exact .sx (hb _ _ h) h2 h3
  | sx0 a=>exact .sx0 a
  | yld h=>exact .yld (hxb _ _ h)
  | mp h=>exact .mp (hxb _ _ h)
  | it h=>exact .it (hxb _ _ h)
  | tr f hr hl h1 h2 hc _ ih=>exact .tr f (hro _ hr) hl h1 h2 (fun j c hj=>(hcell _ _ hr).trans (hc j c hj)) ih
  | tr0 a h2=>exact .tr0 a h2
  | trn=>exact .trn
  | fn vs hl _ ih=>exact .fn vs hl ih
  | agg vs hl _ ih=>exact .agg vs hl ih
  | tup vs hl _ ih=>exact .tup vs hl ih
theorem Rep.mono {m m':Mp} {w w':World} (hk:∀ b,m.ro b→m.keep b) (h:Le m w m' w') {p:PV} {v:Value} (r:Rep m w p v):Rep m' w' p v :=
  r.mono' h.blk (fun id b hx=>by rw [h.xb];exact hx) (fun b hb=>by rw [h.ro];exact hb) fun b _ hb=>h.cell (hk b hb)
def Xeu (m:Mp) (w:World) (B:Blk) (b d lim:Nat):Prop :=
  ∃ cur:Array Value,w.heap[b]?=some (.cells cur B.elem (0,0))∧cur.size=lim∧d+B.cells.length≤lim ∧
    ∀ j c,B.cells[j]?=some c→∃ v,cur[d+j]?=some v∧Rep m w c v∧v.oneCell'=true
structure R (m:Mp) (H:Xh) (w:World):Prop where
  rk:∀ b,m.ro b→m.keep b
  kl:∀ b,m.keep b→b < w.heap.size
  dom:∀ id x,m.blk id=some x→id < H.length
  blk:∀ id B b d lim,H[id]?=some (some B)→m.blk id=some (b,d,lim)→d=0∧Xeu m w B b d lim∧(B.own=true→¬ m.keep b)∧(B.own=false→m.ro b)
  inj:∀ i j B C bi di li bj dj lj,i≠j→H[i]?=some (some B)→H[j]?=some (some C)→B.own=true→C.own=true→m.blk i=some (bi,di,li)→m.blk j=some (bj,dj,lj)→bi≠bj
  top:m.top≤H.length
theorem R.nil {m:Mp} {w:World} (h1:∀ b,m.ro b→m.keep b) (h2:∀ b,m.keep b→b < w.heap.size) (h3:∀ id,m.blk id=none) (h4:m.top=0):R m [] w :=
  ⟨h1,h2,(fun id x h=>by rw [h3 id] at h;cases h),(fun id B _ _ _ h=>by simp at h),(fun i j B C _ _ _ _ _ _ _ h=>by simp at h),by simp [h4]⟩
theorem R.mono_rep {m:Mp} {H:Xh} {w:World} (h:R m H w) {m':Mp} {w':World} (hl:Le m w m' w') {p:PV} {v:Value} (r:Rep m w p v):Rep m' w' p v:=r.mono h.rk hl
theorem R.lt {m:Mp} {H:Xh} {w:World} (h:R m H w) {id b d lim:Nat} {B:Blk} (hi:H[id]?=some (some B)) (hm:m.blk id=some (b,d,lim)):b < w.heap.size:=by
  obtain ⟨_,⟨cur,hc,_⟩,_⟩:=h.blk id B b d lim hi hm
  rcases Nat.lt_or_ge b w.heap.size with hlt | hge
  · exact hlt
  · rw [Array.getElem?_eq_none hge] at hc;cases hc
theorem R.world {m:Mp} {H:Xh} {w w':World} (h:R m H w) (hs:w.heap.size≤w'.heap.size) (hos:w'.os=w.os) (ht:w'.tape=w.tape) (ho:w'.output=w.output)
    (hk:∀ b,m.keep b→w'.heap[b]?=w.heap[b]?) (hb:∀ id B b d lim,H[id]?=some (some B)→m.blk id=some (b,d,lim)→w'.heap[b]?=w.heap[b]?) :
    R m H w'∧Le m w m w':=by
  have hle:Le m w m w':=⟨fun _ _ h=>h,rfl,rfl,rfl,hk,hs,hos,ht,ho,rfl,fun _ _=>rfl⟩
  refine ⟨⟨h.rk,fun b hb=>Nat.lt_of_lt_of_le (h.kl b hb) hs,h.dom,fun id B b d lim hi hm=>?_,h.inj,h.top⟩,hle⟩
  obtain ⟨h0,⟨cur,hc,h1,h2,h3⟩,h4,h5⟩:=h.blk id B b d lim hi hm
  refine ⟨h0,⟨cur,by rw [hb id B b d lim hi hm];exact hc,h1,h2,fun j c hj=>?_⟩,h4,h5⟩
  obtain ⟨v,hv,hr,h1v⟩:=h3 j c hj
  exact ⟨v,hv,hr.mono h.rk hle,h1v⟩
theorem R.drew {m:Mp} {H:Xh} {w:World} (h:R m H w):R m H w.drew∧Le m w m w.drew :=
  h.world (Nat.le_refl _) rfl rfl rfl (fun _ _=>rfl) (fun _ _ _ _ _ _ _=>rfl)
theorem R.alloc_any {m:Mp} {H:Xh} {w:World} (h:R m H w) (o:Obj):R m H (w.alloc o)∧Le m w m (w.alloc o) :=
  h.world (by simp) rfl rfl rfl (fun b hb=>Below.heap_alloc w o b (h.kl b hb)) (fun id B b d lim hi hm=>Below.heap_alloc w o b (h.lt hi hm))
theorem XH {H:Xh} {id i:Nat} {x y:Option Blk} (h:(H.set id x)[i]?=some y):(i=id∧y=x)∨(i≠id∧H[i]?=some y):=by
  by_cases e:i=id
  · subst e
    rw [List.getElem?_set_self'] at h
    cases hh:H[i]? with
    | none=>rw [hh] at h;simp at h
    | some z=>rw [hh] at h;simp at h;exact .inl ⟨rfl,h.symm⟩
  · rw [List.getElem?_set_ne (fun e'=>e e'.symm)] at h
    exact .inr ⟨e,h⟩
theorem R.kill {m:Mp} {H:Xh} {w:World} (h:R m H w) (id:Nat):R m (H.set id none) w:=by
  refine ⟨h.rk,h.kl,fun i x hx=>by simpa using h.dom i x hx,fun i B b d lim hi hm=>?_,fun i j B C bi di li bj dj lj hne hi hj=>?_,by simpa using h.top⟩
  · rcases XH hi with ⟨_,e⟩ | ⟨_,e⟩
    · cases e
    · exact h.blk i B b d lim e hm
  · rcases XH hi with ⟨_,e⟩ | ⟨_,ei⟩
    · cases e
    · rcases XH hj with ⟨_,e⟩ | ⟨_,ej⟩
      · cases e
      · exact h.inj i j B C bi di li bj dj lj hne ei ej
theorem XdH {H:Xh} {i:Nat} {B:Blk} (hi:(H++[none])[i]?=some (some B)):H[i]?=some (some B):=by
  rcases Nat.lt_or_ge i H.length with hlt | hge
  · rwa [List.getElem?_append_left hlt] at hi
  · rw [List.getElem?_append_right hge] at hi
    cases hk:i - H.length with
    | zero=>rw [hk] at hi;simp at hi
    | succ k=>rw [hk] at hi;simp at hi
theorem R.ext {m:Mp} {H:Xh} {w:World} (h:R m H w) (x:Nat × Nat × Nat) :
    R { m with blk:=fun i=>if i=H.length then some x else m.blk i } (H++[none]) w∧Le m w { m with blk:=fun i=>if i=H.length then some x else m.blk i } w:=by
  have hle:Le m w { m with blk:=fun i=>if i=H.length then some x else m.blk i } w :=
    ⟨fun i y hy=>by
      have:=h.dom i y hy
      show (if i=H.length then some x else m.blk i)=some y
      rw [if_neg (by omega)];exact hy,rfl,rfl,rfl,fun _ _=>rfl,Nat.le_refl _,rfl,rfl,rfl,rfl,fun id hid=>by
      have:=h.top
      show (if id=H.length then some x else m.blk id)=m.blk id
      rw [if_neg (by omega)]⟩
  have old:∀ i B y,(H++[none])[i]?=some (some B)→(if i=H.length then some x else m.blk i)=some y→m.blk i=some y:=fun i B y hi hy=>by
    have:=(List.getElem?_eq_some_iff.1 (XdH hi)).1
    rwa [if_neg (by omega)] at hy
  refine ⟨⟨h.rk,h.kl,fun i y hy=>?_,fun i B b d lim hi hm=>?_,fun i j B C bi di li bj dj lj hne hi hj ho1 ho2 hmi hmj=>?_,by have:=h.top;simp only [List.length_append,List.length_cons,List.length_nil];omega⟩,hle⟩
  · simp only [List.length_append,List.length_cons,List.length_nil]
    by_cases e:i=H.length
    · omega
    · have hy':m.blk i=some y:=by simpa [e] using hy
      have:=h.dom i y hy'
      omega
  · obtain ⟨h0,⟨cur,h1,h2,h3,h4⟩,h5⟩:=h.blk i B b d lim (XdH hi) (old i B _ hi hm)
    exact ZcT
  · exact ZcU
theorem R.put {m:Mp} {H:Xh} {w:World} (h:R m H w) {id b lim:Nat} (B:Blk) (hm:m.blk id=some (b,0,lim)) (hB:Xeu m w B b 0 lim) (ho:B.own=true) (hk:¬ m.keep b)
    (hfree:∀ i C di li,i≠id→H[i]?=some (some C)→C.own=true→m.blk i≠some (b,di,li)):R m (H.set id (some B)) w:=by
  refine ⟨h.rk,h.kl,fun i x hx=>by simpa using h.dom i x hx,fun i C b' d' lim' hi hm'=>?_,fun i j C D bi di li bj dj lj hne hi hj ho1 ho2 hmi hmj=>?_,by simpa using h.top⟩
  · rcases XH hi with ⟨e1,e⟩ | ⟨_,e⟩
    · cases e;subst e1
      rw [hm] at hm';cases hm'
      exact ⟨rfl,hB,fun _=>hk,fun e=>by rw [ho] at e;cases e⟩
    · exact h.blk i C b' d' lim' e hm'
  · rcases XH hi with ⟨e1,e⟩ | ⟨n1,ei⟩
    · rcases XH hj with ⟨e2,_⟩ | ⟨n2,ej⟩
      · omega
      · subst e1
        rw [hm] at hmi;cases hmi
        rintro rfl
        exact hfree j D dj lj n2 ej ho2 hmj
    · rcases XH hj with ⟨e2,e⟩ | ⟨n2,ej⟩
      · subst e2
        rw [hm] at hmj;cases hmj
        rintro rfl
        exact hfree i C di li n1 ei ho1 hmi
      · exact h.inj i j C D bi di li bj dj lj hne ei ej ho1 ho2 hmi hmj
theorem R.add {m:Mp} {H:Xh} {w:World} (h:R m H w) (B:Blk) {b lim:Nat} (hB:Xeu m w B b 0 lim) (ho:B.own=true) (hk:¬ m.keep b)
    (hfree:∀ i C di li,H[i]?=some (some C)→C.own=true→m.blk i≠some (b,di,li)) :
    R { m with blk:=fun i=>if i=H.length then some (b,0,lim) else m.blk i } (H++[some B]) w∧Le m w { m with blk:=fun i=>if i=H.length then some (b,0,lim) else m.blk i } w:=by
  obtain ⟨h1,hle⟩:=h.ext (b,0,lim)
  refine ⟨?_,hle⟩
  have h2:=h1.put (id:=H.length) (b:=b) (lim:=lim) B (by simp) ?_ ho hk ?_
  · have e:(H++[none]).set H.length (some B)=H++[some B]:=by
      rw [List.set_append_right _ _ (Nat.le_refl _)]
      simp
    rwa [e] at h2
  · obtain ⟨cur,a1,a2,a3,a4⟩:=hB
    exact ZcV
  · intro i C di li hne hi hown hmi
    have hi':H[i]?=some (some C):=by
      rcases Nat.lt_or_ge i H.length with hlt | hge
      · rwa [List.getElem?_append_left hlt] at hi
      · have:i < (H++[none]).length:=(List.getElem?_eq_some_iff.1 hi).1
        simp at this
        omega
    have hmi':m.blk i=some (b,di,li):=by simpa [hne] using hmi
    exact hfree i C di li hi' hown hmi'
theorem R.ghost {m:Mp} {H:Xh} {w:World} (h:R m H w) (B:Blk):R m (H++[some B]) w:=by
  have live:∀ i C x,(H++[some B])[i]?=some (some C)→m.blk i=some x→H[i]?=some (some C):=fun i C x hi hm=>by
    have:=h.dom i x hm
    rwa [List.getElem?_append_left this] at hi
  refine ⟨h.rk,h.kl,fun i x hx=>?_,fun i C b d lim hi hm=>h.blk i C b d lim (live i C _ hi hm) hm,fun i j C D bi di li bj dj lj hne hi hj ho1 ho2 hmi hmj=>?_,by have:=h.top;simp only [List.length_append,List.length_cons,List.length_nil];omega⟩
  · have:=h.dom i x hx
    simp only [List.length_append,List.length_cons,List.length_nil]
    omega
  · exact ZcW
theorem R.new {m:Mp} {H:Xh} {w:World} (h:R m H w) (cells:List PV) (e:TypeId) (cur:Array Value) (hlen:cells.length≤cur.size)
    (hr:∀ (j:Nat) (c:PV),cells[j]?=some c→∃ v:Value,cur[j]?=some v∧Rep m w c v∧v.oneCell'=true) :
    R { m with blk:=fun i=>if i=H.length then some (w.heap.size,0,cur.size) else m.blk i } (H++[some ⟨cells,e,true⟩]) (w.alloc (.cells cur e)) ∧
    Le m w { m with blk:=fun i=>if i=H.length then some (w.heap.size,0,cur.size) else m.blk i } (w.alloc (.cells cur e)):=by
  obtain ⟨h1,hle1⟩:=h.alloc_any (.cells cur e)
  have hB:Xeu m (w.alloc (.cells cur e)) ⟨cells,e,true⟩ w.heap.size 0 cur.size:=by
    refine ⟨cur,heap_alloc_new w _,rfl,by simpa using hlen,fun j c hj=>?_⟩
    obtain ⟨v,hv,hr',h1v⟩:=hr j c hj
    exact Zb5
  have h2:=h1.add ⟨cells,e,true⟩ hB rfl (fun hk=>by
      have:=h.kl _ hk;omega) (fun i C di li hi _ hmi=>by have:=h.lt hi hmi;omega)
  exact ⟨h2.1,hle1.trans h2.2⟩
end Go.Ev
namespace Go.Ev
open Go.RowKit
abbrev Env:=BT PV
def Env.get (E:Env) (t:Nat):Option PV:=BT.get E t
def Env.put (E:Env) (d:Nat) (p:PV):Env:=BT.set E d (some p)
theorem Env.get_put (k t:Nat) (p:PV) (E:Env):(E.put k p).get t=if k=t then some p else E.get t:=BT.get_set E k t (some p)
theorem Env.get_nil (t:Nat):Env.get (BT.leaf:Env) t=none:=rfl
def Xnz:Value→Option PV
  | .agg cs=>match cs.toList.all Xe3 with | true=>some (.agg (cs.toList.map PV.v)) | false=>none
  | x=>some (.v x)
theorem XoC {m:Mp} {w:World} {x:Value} {p:PV} (h:Xnz x=some p):Rep m w p x:=by
  cases x with
  | agg cs =>
    simp only [Xnz] at h
    split at h
    · rename_i ha
      cases h
      refine .agg cs (by simp) fun j c hj=>?_
      rw [List.getElem?_map] at hj
      cases hx:cs.toList[j]? with
      | none=>rw [hx] at hj;cases hj
      | some y =>
        rw [hx] at hj
        simp only [Option.map_some,Option.some.injEq] at hj
        subst hj
        have hlt:j < cs.size:=by simpa using (List.getElem?_eq_some_iff.1 hx).1
        have e:cs.getD j undef=y:=by
          have:cs[j]?=some y:=by simpa using hx
          simp [Array.getD_eq_getD_getElem?,this]
        rw [e]
        exact .v y (List.all_eq_true.1 ha y (List.mem_of_getElem? hx))
    · cases h
  | _=>simp only [Xnz] at h;cases h;exact .v _ rfl
def Env.ev (E:Env):Operand→Option PV
  | .tmp t=>E.get t
  | .const x=>Xnz x
  | .global g=>some (.v (.pointer (some ⟨g,0,none⟩)))
  | .func f=>some (.fn (.func f) [])
def FR (m:Mp) (w:World) (E:Env) (a:Act):Prop:=∀ t p,E.get t=some p→Rep m w p (a.tmps.getD t undef)
theorem FR.mono {m m':Mp} {w w':World} {E:Env} {a:Act} (hk:∀ b,m.ro b→m.keep b) (hl:Le m w m' w') (h:FR m w E a):FR m' w' E a :=
  fun t p ht=>(h t p ht).mono hk hl
theorem FR.put {m:Mp} {w:World} {E:Env} {a:Act} (h:FR m w E a) {d:Nat} (hd:d < a.tmps.size) {p:PV} {v:Value} (hr:Rep m w p v):FR m w (E.put d p) (a.put (some d) v):=by
  intro t q ht
  rw [Env.get_put] at ht
  by_cases e:d=t
  · subst e
    rw [if_pos rfl] at ht
    cases ht
    simpa [Act.put,Array.getD_eq_getD_getElem?,hd] using hr
  · rw [if_neg e] at ht
    have:=h t q ht
    simpa [Act.put,Array.getD_eq_getD_getElem?,Array.getElem?_setIfInBounds_ne e] using this
theorem FR.ev {m:Mp} {w:World} {E:Env} {a:Act} (h:FR m w E a) {x:Operand} {p:PV} (hx:E.ev x=some p):Rep m w p (a.eval x):=by
  cases x with
  | tmp t=>exact h t p hx
  | const v=>exact XoC hx
  | global g=>simp only [Env.ev] at hx;cases hx;exact .v _ rfl
  | func f=>simp only [Env.ev] at hx;cases hx;exact .fn #[] rfl (fun j c hj=>by simp at hj)
def Env.only (E:Env):List Nat→Env
  | []=>.leaf
  | t::r=>match E.get t with
    | some p=>(Env.only E r).put t p
    | none=>Env.only E r
theorem Env.only_get (E:Env):∀ (l:List Nat) t p,(E.only l).get t=some p→E.get t=some p
  | [],t,p,h=>by simp [Env.only,Env.get_nil] at h
  | x::r,t,p,h=>by
    simp only [Env.only] at h
    split at h
    · rename_i q hq
      rw [Env.get_put] at h
      by_cases e:x=t
      · subst e;rw [if_pos rfl] at h;cases h;exact hq
      · rw [if_neg e] at h;exact Env.only_get E r t p h
    · exact Env.only_get E r t p h
def OpV (P:Program) (o:Oper) (E:Env) (H:Xh) (p:PV):Prop :=
  ∀ m w (ρ:Operand→Value),R m H w→(∀ x q,E.ev x=some q→Rep m w q (ρ x))→∃ v,(execOp ρ o).run P w=.ok (.value v) w∧Rep m w p v
def OpW (P:Program) (o:Oper) (E:Env) (H:Xh) (p:PV) (H':Xh):Prop :=
  ∀ m w (ρ:Operand→Value),R m H w→(∀ x q,E.ev x=some q→Rep m w q (ρ x))→∃ v m' w',(execOp ρ o).run P w=.ok (.value v) w'∧Le m w m' w'∧R m' H' w'∧Rep m' w' p v
def OpS (P:Program) (o:Oper) (E:Env) (H H':Xh):Prop :=
  ∀ m w (ρ:Operand→Value),R m H w→(∀ x q,E.ev x=some q→Rep m w q (ρ x))→∃ m' w',(execOp ρ o).run P w=.ok .skip w'∧Le m w m' w'∧R m' H' w'
def XeK (m:Mp) (w:World) (ps:List PV) (vs:Array Value):Prop:=vs.size=ps.length∧∀ (j:Nat) (c:PV),ps[j]?=some c→Rep m w c (vs.getD j undef)
def evs (E:Env):List Operand→Option (List PV)
  | []=>some []
  | x::r=>match E.ev x with
    | some p=>match evs E r with
      | some ps=>some (p::ps)
      | none=>none
    | none=>none
theorem Xdb {m:Mp} {w:World} {E:Env} {ρ:Operand→Value} (hρ:∀ x q,E.ev x=some q→Rep m w q (ρ x)):∀ (l:List Operand) (ps:List PV),evs E l=some ps →
    ps.length=l.length∧∀ (j:Nat) (c:PV),ps[j]?=some c→Rep m w c ((l.map ρ).getD j undef)
  | [],ps,h=>by simp [evs] at h;subst h;simp
  | x::r,ps,h=>by
    simp only [evs] at h
    split at h
    · rename_i p hp
      split at h
      · rename_i qs hq
        cases h
        obtain ⟨h1,h2⟩:=Xdb hρ r qs hq
        refine ⟨by simp [h1],fun j c hj=>?_⟩
        cases j with
        | zero=>simp at hj;subst hj;simpa using hρ x p hp
        | succ j=>simpa using h2 j c (by simpa using hj)
      · cases h
    · cases h
theorem XeK.append {m:Mp} {w:World} {ps qs:List PV} {vs us:Array Value} (h:XeK m w ps vs) (k:XeK m w qs us):XeK m w (ps++qs) (vs++us):=by
  refine ⟨by simp [h.1,k.1],fun j c hj=>?_⟩
  rcases Nat.lt_or_ge j ps.length with hlt | hge
  · rw [List.getElem?_append_left hlt] at hj
    have:=h.2 j c hj
    rwa [Array.getD_eq_getD_getElem?,Array.getElem?_append_left (by rw [h.1];exact hlt),← Array.getD_eq_getD_getElem?]
  · rw [List.getElem?_append_right hge] at hj
    have:=k.2 _ c hj
    rwa [Array.getD_eq_getD_getElem?,Array.getElem?_append_right (by rw [h.1];exact hge),h.1,← Array.getD_eq_getD_getElem?]
def XbG:Nat→List PV→Env
  | _,[]=>.leaf
  | k,p::r=>(XbG (k+1) r).put k p
theorem Xce:∀ (ps:List PV) (k t:Nat) (p:PV),(XbG k ps).get t=some p→k≤t∧ps[t - k]?=some p
  | [],k,t,p,h=>by simp [XbG,Env.get_nil] at h
  | q::r,k,t,p,h=>by
    simp only [XbG] at h
    rw [Env.get_put] at h
    by_cases e:k=t
    · subst e;rw [if_pos rfl] at h;cases h;simp
    · rw [if_neg e] at h
      obtain ⟨h1,h2⟩:=Xce r (k+1) t p h
      refine ⟨by omega,?_⟩
      rw [show t - k=(t - (k+1))+1 from by omega]
      simpa using h2
def Xai:Nat→List PV→Option (List PV)
  | 0,_=>some []
  | _+1,[]=>none
  | k+1,c::r=>match Xai k r with
    | some l=>some (c::l)
    | none=>none
theorem Xaq:∀ (k:Nat) (l r:List PV),Xai k l=some r↔(k≤l.length∧r=l.take k)
  | 0,l,r=>by simp [Xai,eq_comm]
  | k+1,[],r=>by simp [Xai]
  | k+1,c::l,r=>by
    have ih:=Xaq k l
    simp only [Xai]
    cases h:Xai k l with
    | none =>
      have hn:¬ k≤l.length:=fun hk=>by
        have:=(ih (l.take k)).2 ⟨hk,rfl⟩
        rw [h] at this;cases this
      simp [hn]
    | some x =>
      obtain ⟨h1,h2⟩:=(ih x).1 h
      simp [h1,h2,eq_comm]
def XdC (H:Xh) (p:PV) (k:Nat):Option (List PV) :=
  match p with
  | .ptr id off=>match H[id]? with
    | some (some B)=>Xai k (B.cells.drop off)
    | _=>none
  | .ept cells off=>Xai k (cells.drop off)
  | _=>none
theorem Addr.add_mk (b o k:Nat):(⟨b,o,none⟩:Addr).add k=⟨b,o+k,none⟩:=Addr.add_lit b o k
theorem XcM {m:Mp} {H:Xh} {w:World} (h:R m H w) {p:PV} {k:Nat} {cs:List PV} {v:Value} (hr:Rep m w p v) (hc:XdC H p k=some cs) :
    cs.length=k∧∃ b o,v=.pointer (some ⟨b,o,none⟩)∧∀ (j:Nat) (c:PV),cs[j]?=some c→∃ u,w.cell? ⟨b,o+j,none⟩=some u∧Rep m w c u:=by
  cases hr with
  | @ptr id off b d lim hm =>
    simp only [XdC] at hc
    split at hc
    · rename_i B hB
      obtain ⟨h1,rfl⟩:=(Xaq _ _ _).1 hc
      refine ⟨by simp only [List.length_take];omega,b,d+off,rfl,fun j c hj=>?_⟩
      obtain ⟨_,⟨cur,c1,c2,c3,c4⟩,_⟩:=h.blk id B b d lim hB hm
      rw [List.getElem?_take] at hj
      split at hj
      · rw [List.getElem?_drop] at hj
        obtain ⟨u,hu,hru,_⟩:=c4 (off+j) c hj
        exact Zcd
      · cases hj
    · cases hc
  | @ept cells off b o f hro hcell hh =>
    simp only [XdC] at hc
    obtain ⟨h1,rfl⟩:=(Xaq _ _ _).1 hc
    refine ⟨by simp only [List.length_take];omega,b,o+off,rfl,fun j c hj=>?_⟩
    rw [List.getElem?_take] at hj
    split at hj
    · rw [List.getElem?_drop] at hj
      exact ⟨f (off+j),by rw [Nat.add_assoc];exact hcell _ c hj,hh _ c hj⟩
    · cases hj
  | _=>simp [XdC] at hc
def Xdl:TypeDesc→Bool
  | .struct _=>true
  | .array _ _=>true
  | _=>false
theorem Xd9 {P:Program} {t:TypeId} {d:TypeDesc} (h:P.underlying t=some d) (w:World):(isAgg t).run P w=.ok (Xdl d) w:=by
  unfold isAgg
  simp only [Sem.run_bind,run_underlying h,Result.andThen_ok]
  cases d <;> rfl
theorem Xaj {P:Program} {t:TypeId} {i:TypeInfo} (h:P.info? t=some i) (w:World):(sizeOf t).run P w=.ok i.size w:=by
  simp [sizeOf,typeInfo,h]
def Xd2 (d:TypeDesc) (size:Nat) (H:Xh) (p:PV):Option PV :=
  match Xdl d with
  | true=>match XdC H p size with
    | some cs=>some (.agg cs)
    | none=>none
  | false=>match XdC H p 1 with
    | some [c]=>some c
    | _=>none
theorem XcL {P:Program} {m:Mp} {H:Xh} {w:World} (h:R m H w) {t:TypeId} {d:TypeDesc} {i:TypeInfo} (hd:P.underlying t=some d) (hi:P.info? t=some i) {p q:PV} {v:Value}
    (hr:Rep m w p v) (hl:Xd2 d i.size H p=some q):∃ a u,v=.pointer (some a)∧(loadVar t a).run P w=.ok u w∧Rep m w q u:=by
  unfold Xd2 at hl
  cases ha:Xdl d with
  | true =>
    rw [ha] at hl
    simp only at hl
    split at hl
    · rename_i cs hcs
      cases hl
      obtain ⟨h1,b,o,rfl,h2⟩:=XcM h hr hcs
      have hx:∃ us:List Value,us.length=cs.length∧∀ (j:Nat) (u:Value),us[j]?=some u→w.cell? ⟨b,o+j,none⟩=some u∧∃ c,cs[j]?=some c∧Rep m w c u:=by
        refine ⟨(List.range cs.length).map fun j=>(w.cell? ⟨b,o+j,none⟩).getD undef,by simp,fun j u hu=>?_⟩
        rw [List.getElem?_map] at hu
        rcases Nat.lt_or_ge j cs.length with hlt | hge
        · rw [List.getElem?_range hlt] at hu
          simp only [Option.map_some,Option.some.injEq] at hu
          obtain ⟨u',hu',hru⟩:=h2 j _ (List.getElem?_eq_getElem hlt)
          rw [hu'] at hu
          simp only [Option.getD_some] at hu
          subst hu
          exact ⟨hu',_,List.getElem?_eq_getElem hlt,hru⟩
        · rw [List.getElem?_eq_none (by simpa using hge)] at hu;cases hu
      obtain ⟨us,hus,hu⟩:=hx
      refine ⟨⟨b,o,none⟩,.agg us.toArray,rfl,?_,?_⟩
      · have:=run_loadCells_list (P:=P) w ⟨b,o,none⟩ us (fun j v hv=>by rw [Addr.add_mk];exact (hu j v hv).1)
        rw [hus,h1] at this
        unfold loadVar
        simp only [Sem.run_bind,Xd9 hd,ha,Result.andThen_ok,if_true,Xaj hi,this,Sem.run_pure]
      · refine .agg us.toArray (by simp [hus]) (fun j c hj=>?_)
        have hlt:j < us.length:=by rw [hus];exact (List.getElem?_eq_some_iff.1 hj).1
        obtain ⟨_,c',hc',hrc⟩:=hu j _ (List.getElem?_eq_getElem hlt)
        rw [hj] at hc';cases hc'
        simpa [Array.getD_eq_getD_getElem?,hlt] using hrc
    · cases hl
  | false =>
    rw [ha] at hl
    simp only at hl
    split at hl
    · rename_i c hc
      cases hl
      obtain ⟨h1,b,o,rfl,h2⟩:=XcM h hr hc
      obtain ⟨u,hu,hru⟩:=h2 0 _ rfl
      refine ⟨⟨b,o,none⟩,u,rfl,?_,hru⟩
      unfold loadVar
      have hu':w.cell? ⟨b,o,none⟩=some u:=by simpa using hu
      simp only [Sem.run_bind,Xd9 hd,ha,Result.andThen_ok,Bool.false_eq_true,if_false,run_load,hu']
    · cases hl
end Go.Ev
namespace Go.Ev
open Go.RowKit
class HasU (P:Program) (t:TypeId) (d:outParam TypeDesc):Prop where
  u:P.underlying t=some d
class HasI (P:Program) (t:TypeId) (size bytes:outParam Nat) (z:outParam (List Value)):Prop where
  i:∃ i zv,P.info? t=some i∧i.size=size∧i.bytes=bytes∧i.zero=some zv∧zv.cells.toList=z
class HasB (P:Program) (t:TypeId) (places:outParam (List (Nat × Nat))):Prop where
  b:∃ fields,P.underlying t=some (.struct fields)∧fields.toList.map (fun f=>(f.offset,(P.info? f.type).map (·.size)))=places.map (fun x=>(x.1,some x.2))
theorem Xdi {P:Program}:∀ (fs:List Field) (places:List (Nat × Nat)),fs.map (fun f=>(f.offset,(P.info? f.type).map (·.size)))=places.map (fun x=>(x.1,some x.2)) →
    ∀ w,(fs.mapM fun f=>(do pure (f.offset,← sizeOf f.type):Sem (Nat × Nat))).run P w=.ok places w
  | [],[],_,w=>by simp
  | [],_::_,h,_=>by simp at h
  | _::_,[],h,_=>by simp at h
  | f::fs,x::places,h,w=>by
    simp only [List.map_cons,List.cons.injEq,Prod.mk.injEq] at h
    obtain ⟨⟨h1,h2⟩,h3⟩:=h
    obtain ⟨i,hi,hs⟩:=Option.map_eq_some_iff.1 h2
    have hone:(do pure (f.offset,← sizeOf f.type):Sem (Nat × Nat)).run P w=.ok x w:=by
      simp [sizeOf,typeInfo,hi,h1,hs]
    rw [List.mapM_cons]
    simp only [Sem.run_bind] at hone ⊢
    rw [hone]
    simp only [Result.andThen_ok]
    rw [Xdi fs places h3 w]
    rfl
theorem HasB.run {P:Program} {t:TypeId} {places:List (Nat × Nat)} [hb:HasB P t places]:∃ fields,P.underlying t=some (.struct fields)∧∀ w,(fields.mapM fun f=>(do pure (f.offset,← sizeOf f.type):Sem (Nat × Nat))).run P w=.ok places.toArray w:=by
  obtain ⟨fields,h1,h2⟩:=hb.b
  refine ⟨fields,h1,fun w=>?_⟩
  rw [Array.mapM_eq_mapM_toList]
  simp only [Sem.run_map,Xdi _ _ h2 w,Result.andThen_ok]
theorem HasB.spot {P:Program} {t:TypeId} {places:List (Nat × Nat)} [hb:HasB P t places] {k off sz:Nat} (hk:places[k]?=some (off,sz)):∃ fields fl i,P.underlying t=some (.struct fields)∧fields[k]?=some fl∧fl.offset=off∧P.info? fl.type=some i∧i.size=sz:=by
  obtain ⟨fields,h1,h2⟩:=hb.b
  have:=congrArg (·[k]?) h2
  simp only [List.getElem?_map,hk,Option.map_some] at this
  obtain ⟨fl,hf,he⟩:=Option.map_eq_some_iff.1 this
  simp only [Prod.mk.injEq] at he
  obtain ⟨i,hi,hs⟩:=Option.map_eq_some_iff.1 he.2
  exact ⟨fields,fl,i,h1,by simpa using hf,he.1,hi,hs⟩
def cellsOf:PV→List PV
  | .agg cs=>cs
  | p=>[p]
def XV:PV→Bool
  | .v x=>x.oneCell'
  | .agg _=>false
  | .tup _=>false
  | _=>true
theorem Xbx {m:Mp} {w:World} {p:PV} {v:Value} (h:Rep m w p v) (hp:XV p=true):v.oneCell'=true:=by
  cases h <;> first | rfl | (simp [XV] at hp;done) | (simpa [XV] using hp)
def CR (m:Mp) (w:World) (ps:List PV) (vs:List Value):Prop:=vs.length=ps.length∧∀ (j:Nat) (c:PV),ps[j]?=some c→∃ u,vs[j]?=some u∧Rep m w c u
theorem Xbp {m:Mp} {w:World} {p:PV} {v:Value} (h:Rep m w p v):CR m w (cellsOf p) v.cells.toList:=by
  cases h with
  | agg vs hl hh =>
    refine ⟨by simp [cellsOf,Value.cells,hl],fun j c hj=>?_⟩
    have hlt:j < vs.size:=by rw [hl];exact (List.getElem?_eq_some_iff.1 hj).1
    exact ZcZ
  | v _ hx =>
    have e:v.cells=#[v]:=by cases v <;> first | rfl | (simp [Xe3] at hx)
    refine ⟨by simp [cellsOf,e],fun j c hj=>?_⟩
    cases j with
    | zero=>simp [cellsOf] at hj;subst hj;exact ⟨v,by simp [e],.v v hx⟩
    | succ j=>simp [cellsOf] at hj
  | ptr hb=>exact ⟨rfl,fun j c hj=>by cases j with | zero=>simp [cellsOf] at hj;subst hj;exact ⟨_,rfl,.ptr hb⟩ | succ j=>simp [cellsOf] at hj⟩
  | ept f a b d=>exact ⟨rfl,fun j c hj=>by cases j with | zero=>simp [cellsOf] at hj;subst hj;exact ⟨_,rfl,.ept f a b d⟩ | succ j=>simp [cellsOf] at hj⟩
  | sl a b c d=>exact ⟨rfl,fun j c hj=>by cases j with | zero=>simp [cellsOf] at hj;subst hj;exact ⟨_,rfl,.sl a b ‹_› d⟩ | succ j=>simp [cellsOf] at hj⟩
  | sl0 a=>exact ⟨rfl,fun j c hj=>by cases j with | zero=>simp [cellsOf] at hj;subst hj;exact ⟨_,rfl,.sl0 a⟩ | succ j=>simp [cellsOf] at hj⟩
  | sx a c d=>exact ⟨rfl,fun j c hj=>by cases j with | zero=>simp [cellsOf] at hj;subst hj;exact ⟨_,rfl,.sx a ‹_› d⟩ | succ j=>simp [cellsOf] at hj⟩
  | sx0 a=>exact ⟨rfl,fun j c hj=>by cases j with | zero=>simp [cellsOf] at hj;subst hj;exact ⟨_,rfl,.sx0 a⟩ | succ j=>simp [cellsOf] at hj⟩
  | yld a=>exact ⟨rfl,fun j c hj=>by cases j with | zero=>simp [cellsOf] at hj;subst hj;exact ⟨_,rfl,.yld a⟩ | succ j=>simp [cellsOf] at hj⟩
  | mp a=>exact ⟨rfl,fun j c hj=>by cases j with | zero=>simp [cellsOf] at hj;subst hj;exact ⟨_,rfl,.mp a⟩ | succ j=>simp [cellsOf] at hj⟩
  | it a=>exact ⟨rfl,fun j c hj=>by cases j with | zero=>simp [cellsOf] at hj;subst hj;exact ⟨_,rfl,.it a⟩ | succ j=>simp [cellsOf] at hj⟩
  | tr f a b c d e g=>exact ⟨rfl,fun j c hj=>by cases j with | zero=>simp [cellsOf] at hj;subst hj;exact ⟨_,rfl,.tr f a b ‹_› d e g⟩ | succ j=>simp [cellsOf] at hj⟩
  | tr0 a b=>exact ⟨rfl,fun j c hj=>by cases j with | zero=>simp [cellsOf] at hj;subst hj;exact ⟨_,rfl,.tr0 a b⟩ | succ j=>simp [cellsOf] at hj⟩
  | trn=>exact ⟨rfl,fun j c hj=>by cases j with | zero=>simp [cellsOf] at hj;subst hj;exact ⟨_,rfl,.trn⟩ | succ j=>simp [cellsOf] at hj⟩
  | fn vs hl hh=>exact ⟨rfl,fun j c hj=>by cases j with | zero=>simp [cellsOf] at hj;subst hj;exact ⟨_,rfl,.fn vs hl hh⟩ | succ j=>simp [cellsOf] at hj⟩
  | tup vs hl hh=>exact ⟨rfl,fun j c hj=>by cases j with | zero=>simp [cellsOf] at hj;subst hj;exact ⟨_,rfl,.tup vs hl hh⟩ | succ j=>simp [cellsOf] at hj⟩
def X6:List PV→Nat→List PV→List PV
  | l,_,[]=>l
  | l,off,c::cs=>X6 (l.set off c) (off+1) cs
theorem X5:∀ (cs l:List PV) (off:Nat),(X6 l off cs).length=l.length
  | [],l,off=>rfl
  | c::cs,l,off=>by simp [X6,X5 cs]
theorem XbM:∀ (cs l:List PV) (off j:Nat),off+cs.length≤l.length→(X6 l off cs)[j]?=if off≤j∧j < off+cs.length then cs[j - off]? else l[j]?
  | [],l,off,j,_=>by
    simp only [X6,List.length_nil,Nat.add_zero]
    rw [if_neg (by omega)]
  | c::cs,l,off,j,h=>by
    simp only [List.length_cons] at h
    simp only [X6]
    rw [XbM cs (l.set off c) (off+1) j (by simp;omega)]
    simp only [List.length_cons]
    by_cases e:j=off
    · subst e
      rw [if_neg (by omega),if_pos (by omega)]
      simp only [Nat.sub_self,List.getElem?_cons_zero]
      rw [List.getElem?_set_self (by omega)]
    · by_cases e2:off+1≤j∧j < off+1+cs.length
      · rw [if_pos e2,if_pos (by omega)]
        rw [show j - off=(j - (off+1))+1 from by omega]
        simp
      · rw [if_neg e2,if_neg (by omega),List.getElem?_set_ne (by omega)]
section
variable {P:Program} {E:Env} {H:Xh} {o:Oper} {t s e:TypeId} {d:TypeDesc} {size bytes sz:Nat} {z:List Value} {fields:Array Field} {k:IntKind}
theorem OpV.same {p q:PV} (h:OpV P o E H p) (e:p=q):OpV P o E H q:=e ▸ h
theorem XA {m:Mp} {w:World} {x v:Value} (h:Rep m w (.v x) v):v=x:=by cases h;rfl
theorem XaJ {x:Operand} {p:PV} (ho:o.op=.move x) (hx:E.ev x=some p):OpV P o E H p:=fun m w ρ _ hρ =>
  ⟨ρ x,by simp [execOp,ho],hρ x p hx⟩
theorem Xas {x:Operand} {p:PV} (ho:o.op=.assign x) (hx:E.ev x=some p):OpV P o E H p:=fun m w ρ _ hρ =>
  ⟨ρ x,by simp [execOp,ho],hρ x p hx⟩
theorem Xbe {c a b:Operand} {t:Bool} {p:PV} (ho:o.op=.pick c a b) (hc:E.ev c=some (.v (.bool t))) (ht:t=true) (ha:E.ev a=some p):OpV P o E H p:=fun m w ρ _ hρ=>by
  have h1:=XA (hρ c _ hc)
  refine ⟨ρ a,by simp [execOp,ho,h1,asBool,ht],hρ a p ha⟩
theorem Xbf {c a b:Operand} {t:Bool} {p:PV} (ho:o.op=.pick c a b) (hc:E.ev c=some (.v (.bool t))) (ht:t=false) (hb:E.ev b=some p):OpV P o E H p:=fun m w ρ _ hρ=>by
  have h1:=XA (hρ c _ hc)
  refine ⟨ρ b,by simp [execOp,ho,h1,asBool,ht],hρ b p hb⟩
def toV:PV→Option Value
  | .v x=>some x
  | .agg cs=>match cs.mapM (fun | .v x=>some x | _=>none) with
    | some xs=>some (.agg xs.toArray)
    | none=>none
  | _=>none
theorem Xkp:∀ (cs:List PV) (xs:List Value),cs.mapM (fun (p:PV)=>match p with | .v x=>some x | _=>none)=some xs→cs=xs.map PV.v
  | [],xs,h=>by simp at h;subst h;rfl
  | c::cs,xs,h=>by
    rw [List.mapM_cons] at h
    cases c with
    | v x =>
      simp only [Option.bind_eq_bind,Option.bind_some,Option.bind_eq_some_iff,Option.pure_def,Option.some.injEq] at h
      obtain ⟨ys,hy,rfl⟩:=h
      rw [Xkp cs ys hy];rfl
    | _=>simp at h
theorem XgR {m:Mp} {w:World} {p:PV} {x v:Value} (h:Rep m w p v) (hp:toV p=some x):v=x:=by
  cases p with
  | v y=>simp only [toV] at hp;cases hp;exact XA h
  | agg cs =>
    simp only [toV] at hp
    split at hp
    · rename_i xs hx
      cases hp
      have e:=Xkp cs xs hx
      subst e
      cases h with
      | agg vs hl hh =>
        congr 1
        apply Array.ext
        · simpa using hl
        · intro i h1 h2
          simp only [List.size_toArray] at h2
          have:=hh i (.v xs[i]) (by simp [h2])
          have:=XA this
          simpa [Array.getD_eq_getD_getElem?,h1] using this
    · cases hp
  | _=>simp [toV] at hp
theorem Xab {op:BinOp} {t ty:TypeId} {x y:Operand} {px py:PV} {vx vy r:Value} (ho:o.op=.binOp op t x y ty) (hx:E.ev x=some px) (hy:E.ev y=some py) (hvx:toV px=some vx) (hvy:toV py=some vy)
    (h:∀ w,(do eqGuard op t x y vx vy;binOp op t vx vy:Sem Value).run P w=.ok r w) (hr:Xe3 r=true):OpV P o E H (.v r):=fun m w ρ _ hρ=>by
  have h1:=XgR (hρ x _ hx) hvx
  have h2:=XgR (hρ y _ hy) hvy
  refine ⟨r,?_,.v r hr⟩
  have:=h w
  simp only [execOp,ho,h1,h2,Sem.run_bind] at this ⊢
  rw [this]
  rfl
theorem XP {op:BinOp} {t ty:TypeId} {x y:Operand} {k:IntKind} {a b:Int} {r:Bool} (ho:o.op=.binOp op t x y ty) (hx:E.ev x=some (.v (.int k a))) (hy:E.ev y=some (.v (.int k b)))
    (hr:(match op with | .eql=>some (decide (a=b)) | .neq=>some (!decide (a=b)) | .lss=>some (decide (a < b)) | .leq=>some (decide (a≤b)) | .gtr=>some (decide (b < a)) | .geq=>some (decide (b≤a)) | _=>none)=some r) :
    OpV P o E H (.v (.bool r)):=Xab ho hx hy rfl rfl (fun w=>by
  cases op <;> simp only at hr <;> cases hr
  · simp [eqGuard_at_int,binOp_eql];rfl
  · simp [eqGuard_at_int,binOp_neq];rfl
  · simp [eqGuard_at_int,binOp_lss]
  · simp [eqGuard_at_int,binOp_leq]
  · simp [eqGuard_at_int,binOp_gtr]
  · simp [eqGuard_at_int,binOp_geq]) rfl
theorem XhN {t ty:TypeId} {x y:Operand} {a b:Int} (ho:o.op=.binOp .add t x y ty) (hx:E.ev x=some (.v (.int .i64 a))) (hy:E.ev y=some (.v (.int .i64 b)))
    (h:-9223372036854775808≤a+b∧a+b≤9223372036854775807):OpV P o E H (.v (.int .i64 (a+b))):=Xab ho hx hy rfl rfl (fun w=>by
  have e:IntKind.i64.wrap (a+b)=a+b:=by rw [IntKind.wrap_i64];omega
  simp [eqGuard_at_int,binOp_add,Op.intArith,e]) rfl
theorem Xfd {t ty:TypeId} {x y:Operand} {a b:Int} (ho:o.op=.binOp .sub t x y ty) (hx:E.ev x=some (.v (.int .i64 a))) (hy:E.ev y=some (.v (.int .i64 b)))
    (h:-9223372036854775808≤a - b∧a - b≤9223372036854775807):OpV P o E H (.v (.int .i64 (a - b))):=Xab ho hx hy rfl rfl (fun w=>by
  have e:IntKind.i64.wrap (a - b)=a - b:=by rw [IntKind.wrap_i64];omega
  simp [eqGuard_at_int,binOp_sub,Op.intArith,e]) rfl
theorem XwY [hu:HasU P t .bool] {ty:TypeId} {x y:Operand} {a b:Bool} (ho:o.op=.binOp .neq t x y ty) (hx:E.ev x=some (.v (.bool a))) (hy:E.ev y=some (.v (.bool b))) :
    OpV P o E H (.v (.bool (!(a == b)))):=Xab ho hx hy rfl rfl (fun w=>by
  have h:∀ n,(Op.equalIn (n+1) t (.bool a) (.bool b)).run P w=.ok (a == b) w:=fun n=>run_equalIn_bool' w n t a b hu.u
  simp [eqGuard_at_bool,binOp,Op.equal,Op.maxDepth,h 9999]) rfl
theorem Xgd [hu:HasU P t (.pointer e)] {op:BinOp} {ty:TypeId} {x:Operand} {p:PV} {r:Bool} (ho:o.op=.binOp op t x (.const (.pointer none)) ty) (hx:E.ev x=some p)
    (hr:(match op,p with | .eql,.ptr _ _=>some false | .eql,.ept _ _=>some false | .eql,.v (.pointer none)=>some true | .neq,.ptr _ _=>some true | .neq,.ept _ _=>some true | .neq,.v (.pointer none)=>some false | _,_=>none)=some r) :
    OpV P o E H (.v (.bool r)):=fun m w ρ _ hρ=>by
  have h1:=hρ x p hx
  have h2:=XA (hρ (.const (.pointer none)) _ rfl)
  refine ⟨.bool r,?_,.v _ rfl⟩
  have key:∃ q,ρ x=.pointer q∧((op=.eql∧r=q.isNone)∨(op=.neq∧r=!q.isNone)):=by
    generalize ρ x=v at h1
    cases h1 with
    | ptr hb=>cases op <;> simp only at hr <;> cases hr <;> exact ⟨_,rfl,by simp⟩
    | ept f a b c=>cases op <;> simp only at hr <;> cases hr <;> exact ⟨_,rfl,by simp⟩
    | v _ hy =>
      cases v with
      | pointer q =>
        cases q with
        | none=>cases op <;> simp only at hr <;> cases hr <;> exact ⟨_,rfl,by simp⟩
        | some q=>cases op <;> simp at hr
      | _=>cases op <;> simp at hr
    | _=>cases op <;> simp at hr
  obtain ⟨q,e1,he⟩:=key
  have hp:P.underlying t=some (.pointer (P.pointee t)):=by simp [Program.pointee,hu.u]
  rcases he with ⟨rfl,rfl⟩ | ⟨rfl,rfl⟩
  · simp [execOp,ho,e1,h2,eqGuard_at_pointer,run_eql_pointer_nil _ _ _ hp]
  · simp [execOp,ho,e1,h2,eqGuard_at_pointer,run_neq_pointer_nil _ _ _ hp]
theorem Xet {t:TypeId} {x:Operand} {b:Bool} (ho:o.op=.unOp .not t x) (hx:E.ev x=some (.v (.bool b))):OpV P o E H (.v (.bool (!b))):=fun m w ρ _ hρ=>by
  have h1:=XA (hρ x _ hx)
  exact ⟨.bool (!b),by simp [execOp,ho,h1,Op.unary],.v _ rfl⟩
def Xb3:PV→Option Nat
  | .sl _ _ len _=>some len
  | .sx _ _ len _=>some len
  | .tr _ len _=>some len
  | .v (.slice none n _)=>some n
  | _=>none
theorem Xi4 {m:Mp} {w:World} {p:PV} {n:Nat} {v:Value} (h:Rep m w p v) (hl:Xb3 p=some n):∃ a c,v=.slice a n c:=by
  cases h with
  | sl _ _ _ _=>simp only [Xb3] at hl;cases hl;exact ⟨_,_,rfl⟩
  | sl0 a=>simp only [Xb3] at hl;cases hl;exact ⟨_,_,rfl⟩
  | sx _ _ _=>simp only [Xb3] at hl;cases hl;exact ⟨_,_,rfl⟩
  | sx0 a=>simp only [Xb3] at hl;cases hl;exact ⟨_,_,rfl⟩
  | tr f _ _ _ _ _ _=>simp only [Xb3] at hl;cases hl;exact ⟨_,_,rfl⟩
  | tr0 a _=>simp only [Xb3] at hl;cases hl;exact ⟨_,_,rfl⟩
  | trn=>simp only [Xb3] at hl;cases hl;exact ⟨_,_,rfl⟩
  | v _ hx=>cases v with
    | slice a k c=>cases a with
      | none=>simp only [Xb3] at hl;cases hl;exact ⟨_,_,rfl⟩
      | some a=>simp [Xb3] at hl
    | _=>simp [Xb3] at hl
  | _=>simp [Xb3] at hl
theorem XdS [hu:HasU P t (.slice e)] {x:Operand} {p:PV} {n:Nat} (ho:o.op=.call { callee:=.builtin .len,args:=#[x],argTypes:=#[t] }) (hx:E.ev x=some p) (hl:Xb3 p=some n) :
    OpV P o E H (.v (.int .i64 (n:Int))):=fun m w ρ _ hρ=>by
  obtain ⟨a,c,h⟩:=Xi4 (hρ x p hx) hl
  refine ⟨.int .i64 n,?_,.v _ rfl⟩
  simp [execOp,ho,resolve,invoke,builtin,h,Builtin.len_,run_underlying hu.u,goInt]
theorem XaS [hu:HasU P t d] [hi:HasI P t size bytes z] {x:Operand} {p q:PV} (ho:o.op=.load t x) (hx:E.ev x=some p) (hl:Xd2 d size H p=some q):OpV P o E H q:=fun m w ρ hR hρ=>by
  obtain ⟨i,zv,h1,rfl,_⟩:=hi.i
  obtain ⟨a,u,e,hrun,hr⟩:=XcL hR hu.u h1 (hρ x p hx) hl
  refine ⟨u,?_,hr⟩
  simp [execOp,ho,e,Instr.loadAt,Instr.sureAddr,hrun]
def Xdf (p:PV) (k:Nat):Option PV :=
  match p with
  | .ptr id off=>some (.ptr id (off+k))
  | .ept cells off=>some (.ept cells (off+k))
  | _=>none
theorem Xez {m:Mp} {w:World} {p q:PV} {k:Nat} {v:Value} (h:Rep m w p v) (hs:Xdf p k=some q):∃ a,v=.pointer (some a)∧Rep m w q (.pointer (some (a.add k))):=by
  cases h with
  | ptr hb=>simp only [Xdf] at hs;cases hs;exact ⟨_,rfl,by rw [Addr.add_mk,Nat.add_assoc];exact .ptr hb⟩
  | ept f a b c=>simp only [Xdf] at hs;cases hs;exact ⟨_,rfl,by rw [Addr.add_mk,Nat.add_assoc];exact .ept f a b c⟩
  | _=>simp [Xdf] at hs
theorem XE {places:List (Nat × Nat)} [hb:HasB P s places] {x:Operand} {k off sz:Nat} {p q:PV} (ho:o.op=.fieldAddr s x k) (hx:E.ev x=some p) (hf:places[k]?=some (off,sz+1))
    (hq:Xdf p off=some q):OpV P o E H q:=fun m w ρ hR hρ=>by
  obtain ⟨a,e,hr⟩:=Xez (hρ x p hx) hq
  obtain ⟨fields,fl,i,h1,h2,h3,h4,h5⟩:=HasB.spot (P:=P) (t:=s) hf
  subst h3
  refine ⟨_,?_,hr⟩
  simp [execOp,ho,e,Instr.fieldAt,run_underlying h1,h2,Instr.sureAddr,fieldPlace,Xaj h4,h5]
theorem XaI {x:Operand} {p:PV} (ho:o.op=.nilCheck x) (hx:E.ev x=some p) (hp:(match p with | .ptr _ _=>true | .ept _ _=>true | _=>false)=true):OpV P o E H p:=fun m w ρ hR hρ=>by
  have h:=hρ x p hx
  refine ⟨ρ x,?_,h⟩
  generalize hv:ρ x=v at h
  cases h <;> simp at hp <;> simp [execOp,ho,hv]
def Xcj (p:PV) (sz:Nat) (i:Nat):Option PV :=
  match p with
  | .sl id off _ _=>some (.ptr id (off+i * sz))
  | .sx id off _ _=>some (.ptr id (off+i * sz))
  | .tr cells _ _=>some (.ept cells (i * sz))
  | _=>none
theorem Xa4 [hu:HasU P t (.slice e)] [hi:HasI P e sz bytes z] {x y:Operand} {k:IntKind} {i:Int} {n:Nat} {p q:PV} (ho:o.op=.indexAddr t x y) (hx:E.ev x=some p) (hy:E.ev y=some (.v (.int k i)))
    (hn:Xb3 p=some n) (hq:Xcj p sz i.toNat=some q) (h:0≤i∧i < n):OpV P o E H q:=fun m w ρ hR hρ=>by
  have h1:=hρ x p hx
  have h2:=XA (hρ y _ hy)
  obtain ⟨inf,zv,h3,h4,_⟩:=hi.i
  have key:∃ a c,ρ x=.slice (some a) n c∧Rep m w q (.pointer (some (a.add (i.toNat * sz)))):=by
    generalize ρ x=v at h1
    cases h1 with
    | sl hb a1 a2 a3 =>
      simp only [Xb3] at hn;cases hn
      simp only [Xcj] at hq;cases hq
      exact Zb6
    | sl0 a=>simp only [Xb3] at hn;cases hn;omega
    | sx hb a2 a3 =>
      simp only [Xb3] at hn;cases hn
      simp only [Xcj] at hq;cases hq
      exact Zb6
    | sx0 a=>simp only [Xb3] at hn;cases hn;omega
    | tr f a1 a2 a3 a4 a5 a6 =>
      simp only [Xb3] at hn;cases hn
      simp only [Xcj] at hq;cases hq
      exact ⟨_,_,rfl,by rw [Addr.add_mk];exact .ept f a1 a5 a6⟩
    | tr0 a a2=>simp only [Xb3] at hn;cases hn;omega
    | trn=>simp only [Xb3] at hn;cases hn;omega
    | v x hx=>simp [Xcj] at hq
    | _=>simp [Xcj] at hq
  obtain ⟨a,c,e1,hr⟩:=key
  refine ⟨_,?_,hr⟩
  simp [execOp,ho,e1,h2,Instr.indexAt,run_underlying hu.u,asIntOf,h,Xaj h3,h4]
theorem XcW {x:Operand} {ps:List PV} {k:Nat} {p:PV} (ho:o.op=.extract x k) (hx:E.ev x=some (.tup ps)) (hk:ps[k]?=some p):OpV P o E H p:=fun m w ρ hR hρ=>by
  have h:=hρ x _ hx
  generalize hv:ρ x=v at h
  cases h with
  | tup vs hl hh =>
    have hlt:k < vs.size:=by rw [hl];exact (List.getElem?_eq_some_iff.1 hk).1
    refine ⟨vs[k],?_,by simpa [Array.getD_eq_getD_getElem?,hlt] using hh k p hk⟩
    simp [execOp,ho,hv,Instr.extract,hlt]
theorem XmO {ts:Array TypeId} {x y:Operand} {k:IntKind} {a b:Int} (ho:o.op=.call { callee:=.builtin .max,args:=#[x,y],argTypes:=ts }) (hx:E.ev x=some (.v (.int k a))) (hy:E.ev y=some (.v (.int k b))) :
    OpV P o E H (.v (.int k (max a b))):=fun m w ρ hR hρ=>by
  have h1:=XA (hρ x _ hx)
  have h2:=XA (hρ y _ hy)
  refine ⟨_,?_,.v _ rfl⟩
  have e:(if b > a then b else a)=max a b:=by split <;> omega
  simp [execOp,ho,resolve,invoke,builtin,h1,h2,run_max_int2,e]
theorem XmN {ts:Array TypeId} {x y:Operand} {k:IntKind} {a b:Int} (ho:o.op=.call { callee:=.builtin .min,args:=#[x,y],argTypes:=ts }) (hx:E.ev x=some (.v (.int k a))) (hy:E.ev y=some (.v (.int k b))) :
    OpV P o E H (.v (.int k (min a b))):=fun m w ρ hR hρ=>by
  have h1:=XA (hρ x _ hx)
  have h2:=XA (hρ y _ hy)
  refine ⟨_,?_,.v _ rfl⟩
  have e:(if b < a then b else a)=min a b:=by split <;> omega
  simp [execOp,ho,resolve,invoke,builtin,h1,h2,run_min_int2,e]
theorem Xaa [hs:HasU P s d] [hd:HasU P t (.int k)] {x:Operand} {j:IntKind} {a:Int} {b:Int} (ho:o.op=.convert s t x) (hx:E.ev x=some (.v (.int j a))) (hb:k.wrap a=b) :
    OpV P o E H (.v (.int k b)):=fun m w ρ hR hρ=>by
  have h1:=XA (hρ x _ hx)
  refine ⟨.int k b,?_,.v _ rfl⟩
  simp [execOp,ho,h1,convert,run_underlying hs.u,run_underlying hd.u,Conv.intToInt,hb]
theorem Xc9 {f:Fn} {caps:Array Operand} {ps:List PV} (ho:o.op=.makeFunc f #[] caps) (hp:evs E caps.toList=some ps):OpV P o E H (.fn f ps):=fun m w ρ hR hρ=>by
  obtain ⟨e1,e2⟩:=Xdb (m:=m) (w:=w) hρ caps.toList ps hp
  refine ⟨.func f #[] (caps.map ρ),by simp [execOp,ho,Instr.makeFunc],.fn _ (by simp [e1]) fun j c hj=>?_⟩
  have:=e2 j c hj
  simpa [Array.getD_eq_getD_getElem?,List.getD_eq_getElem?_getD] using this
end
end Go.Ev
namespace Go.Ev
open Go.RowKit
def Xcl (place:Nat→Option (Nat × Nat)) (cells:List PV):List (Nat × PV)→Option (List PV)
  | []=>some cells
  | (i,p)::rest=>match place i with
    | none=>none
    | some (off,size)=>match Nat.beq (cellsOf p).length size && Nat.ble (off+(cellsOf p).length) cells.length with
      | true=>Xcl place (X6 cells off (cellsOf p)) rest
      | false=>none
theorem Xem:∀ (vs:List Value) (off k:Nat) (cs:Array Value),off+k+vs.length≤cs.size →
    ((vs.zipIdx k).foldl (fun cs (c,j)=>cs.setIfInBounds (off+j) c) cs).size=cs.size ∧
    ∀ j:Nat,((vs.zipIdx k).foldl (fun cs (c,j)=>cs.setIfInBounds (off+j) c) cs)[j]?=if off+k≤j∧j < off+k+vs.length then vs[j - (off+k)]? else cs[j]?
  | [],off,k,cs,_=>by
    refine ⟨rfl,fun j=>?_⟩
    simp only [List.zipIdx_nil,List.foldl_nil,List.length_nil,Nat.add_zero]
    rw [if_neg (by omega)]
  | v::vs,off,k,cs,h=>by
    simp only [List.length_cons] at h
    obtain ⟨h1,h2⟩:=Xem vs off (k+1) (cs.setIfInBounds (off+k) v) (by simp;omega)
    simp only [List.zipIdx_cons,List.foldl_cons]
    refine ⟨by rw [h1];simp,fun j=>?_⟩
    rw [h2 j]
    simp only [List.length_cons]
    by_cases e:j=off+k
    · subst e
      rw [if_neg (by omega),if_pos (by omega)]
      simp only [Nat.sub_self,List.getElem?_cons_zero]
      rw [Array.getElem?_setIfInBounds_self_of_lt (by omega)]
    · by_cases e2:off+(k+1)≤j∧j < off+(k+1)+vs.length
      · rw [if_pos e2,if_pos (by omega)]
        rw [show j - (off+k)=(j - (off+(k+1)))+1 from by omega]
        simp
      · rw [if_neg e2,if_neg (by omega),Array.getElem?_setIfInBounds_ne (by omega)]
theorem Xck {m:Mp} {w:World} {place:Nat→Option (Nat × Nat)}:∀ (parts:List (Nat × PV)) (vparts:List (Nat × Value)) (cells cs:List PV) (vcells:Array Value),
    parts.length=vparts.length→(∀ (j:Nat) (x:Nat × PV) (y:Nat × Value),parts[j]?=some x→vparts[j]?=some y→x.1=y.1∧Rep m w x.2 y.2)→CR m w cells vcells.toList→Xcl place cells parts=some cs →
    ∃ vs,Instr.fill place vcells vparts=some vs∧CR m w cs vs.toList
  | [],[],cells,cs,vcells,_,_,hc,h=>by simp only [Xcl] at h;cases h;exact ⟨vcells,rfl,hc⟩
  | [],_::_,_,_,_,hl,_,_,_=>by simp at hl
  | _::_,[],_,_,_,hl,_,_,_=>by simp at hl
  | (i,p)::parts,(i',v)::vparts,cells,cs,vcells,hl,hp,hc,h=>by
    obtain ⟨e,hr⟩:=hp 0 (i,p) (i',v) rfl rfl
    simp only at e hr
    subst e
    simp only [Xcl] at h
    cases hpl:place i with
    | none=>rw [hpl] at h;cases h
    | some x =>
      obtain ⟨off,size⟩:=x
      rw [hpl] at h
      simp only at h
      split at h
      · rename_i hb
        simp only [Bool.and_eq_true,Nat.ble_eq] at hb
        obtain ⟨hb1,hb2⟩:=hb
        have hb1:=Nat.eq_of_beq_eq_true hb1
        have hcv:=Xbp hr
        have hsz:v.cells.size=(cellsOf p).length:=by have:=hcv.1;simpa using this
        have hcl:vcells.size=cells.length:=by have:=hc.1;simpa using this
        have hcond:¬ ((v.cells.size≠size || decide (off+v.cells.size > vcells.size))=true):=by
          simp only [Bool.or_eq_true,decide_eq_true_eq,not_or]
          refine ⟨?_,by omega⟩
          simp;omega
        obtain ⟨f1,f2⟩:=Xem v.cells.toList off 0 vcells (by simp;omega)
        have hfold:(v.cells.zipIdx.foldl (fun cs (c,j)=>cs.setIfInBounds (off+j) c) vcells)=((v.cells.toList.zipIdx 0).foldl (fun cs (c,j)=>cs.setIfInBounds (off+j) c) vcells):=by
          rw [← Array.foldl_toList];simp
        have hnew:CR m w (X6 cells off (cellsOf p)) (v.cells.zipIdx.foldl (fun cs (c,j)=>cs.setIfInBounds (off+j) c) vcells).toList:=by
          rw [hfold]
          refine ⟨by rw [X5];simpa using f1.trans hcl,fun j c hj=>?_⟩
          rw [XbM _ _ _ _ hb2] at hj
          rw [Array.getElem?_toList,f2 j]
          simp only [Array.length_toList,Nat.add_zero]
          by_cases e:off≤j∧j < off+(cellsOf p).length
          · rw [if_pos e] at hj
            rw [if_pos (by omega)]
            exact hcv.2 _ c hj
          · rw [if_neg e] at hj
            rw [if_neg (by omega)]
            have:=hc.2 j c hj
            simpa using this
        obtain ⟨vs,h1,h2⟩:=Xck parts vparts _ cs _ (by simpa using hl) (fun j x y hx hy=>hp (j+1) x y (by simpa using hx) (by simpa using hy)) hnew h
        refine ⟨vs,?_,h2⟩
        simp only [Instr.fill,hpl]
        rw [if_neg hcond]
        exact h1
      · cases h
def evp (E:Env):List (Nat × Operand)→Option (List (Nat × PV))
  | []=>some []
  | (i,x)::r=>match E.ev x with
    | some p=>match evp E r with
      | some ps=>some ((i,p)::ps)
      | none=>none
    | none=>none
theorem Xeo {m:Mp} {w:World} {E:Env} {ρ:Operand→Value} (hρ:∀ x q,E.ev x=some q→Rep m w q (ρ x)):∀ (l:List (Nat × Operand)) (ps:List (Nat × PV)),evp E l=some ps →
    ps.length=(l.map fun (x:Nat × Operand)=>(x.1,ρ x.2)).length∧∀ (j:Nat) (x:Nat × PV) (y:Nat × Value),ps[j]?=some x→(l.map fun (x:Nat × Operand)=>(x.1,ρ x.2))[j]?=some y→x.1=y.1∧Rep m w x.2 y.2
  | [],ps,h=>by simp [evp] at h;subst h;simp
  | (i,x)::r,ps,h=>by
    simp only [evp] at h
    split at h
    · rename_i p hp
      split at h
      · rename_i qs hq
        cases h
        obtain ⟨h1,h2⟩:=Xeo hρ r qs hq
        refine ⟨by simp [h1],fun j a b ha hb=>?_⟩
        cases j with
        | zero =>
          simp at ha hb
          subst ha;subst hb
          exact ⟨rfl,hρ x p hp⟩
        | succ j=>exact h2 j a b (by simpa using ha) (by simpa using hb)
      · cases h
    · cases h
theorem XtB {m:Mp} {w:World} {z:List Value} (hz:z.all (fun x=>x.oneCell')=true):CR m w (z.map PV.v) z:=by
  refine ⟨by simp,fun j c hj=>?_⟩
  rw [List.getElem?_map] at hj
  cases h:z[j]? with
  | none=>rw [h] at hj;cases hj
  | some x =>
    rw [h] at hj
    simp only [Option.map_some,Option.some.injEq] at hj
    subst hj
    have:=List.all_eq_true.1 hz x (List.mem_of_getElem? h)
    exact Zc0
theorem XnH {m:Mp} {w:World} {cs:List PV} {vs:Array Value} (h:CR m w cs vs.toList):Rep m w (.agg cs) (.agg vs):=by
  refine .agg vs (by simpa using h.1) fun j c hj=>?_
  obtain ⟨u,hu,hr⟩:=h.2 j c hj
  have hlt:j < vs.size:=by
    have h1:vs.size=cs.length:=by simpa using h.1
    rw [h1];exact (List.getElem?_eq_some_iff.1 hj).1
  simp [hlt] at hu
  subst hu
  simpa [Array.getD_eq_getD_getElem?,hlt] using hr
theorem XfJ {m:Mp} {w:World} {cs:List PV} {vs:Array Value} (h:CR m w cs vs.toList) (h1:cs.all XV=true):∀ (j:Nat) (c:PV),cs[j]?=some c→∃ v:Value,vs[j]?=some v∧Rep m w c v∧v.oneCell'=true:=fun j c hj=>by
  obtain ⟨u,hu,hr⟩:=h.2 j c hj
  exact Zc1
section
variable {P:Program} {E:Env} {H:Xh} {o:Oper} {t s e:TypeId} {d:TypeDesc} {size bytes sz:Nat} {z:List Value} {fields:Array Field} {k:IntKind} {places:List (Nat × Nat)}
theorem XcX [hb:HasB P t places] [hi:HasI P t size bytes z] {parts:Array (Nat × Operand)} {ps:List (Nat × PV)} {cs:List PV} (ho:o.op=.build t parts) (hp:evp E parts.toList=some ps) (hz:z.all (fun x=>x.oneCell')=true)
    (hc:Xcl (fun (i:Nat)=>places[i]?) (z.map PV.v) ps=some cs):OpV P o E H (.agg cs):=fun m w ρ hR hρ=>by
  obtain ⟨fields,h1,h2⟩:=HasB.run (P:=P) (t:=t) (places:=places)
  obtain ⟨i,zv,h3,_,_,h4,h5⟩:=hi.i
  obtain ⟨e1,e2⟩:=Xeo (m:=m) (w:=w) hρ _ _ hp
  obtain ⟨vs,hf,hr⟩:=Xck ps (parts.toList.map fun (x:Nat × Operand)=>(x.1,ρ x.2)) (z.map PV.v) cs zv.cells e1 e2 (by rw [h5];exact XtB hz) hc
  refine ⟨.agg vs,?_,XnH hr⟩
  have hpl:(fun (i:Nat)=>places.toArray[i]?)=fun (i:Nat)=>places[i]?:=by funext i;simp
  simp only [execOp,ho,Instr.build,zeroValue,typeInfo,Sem.run_bind,run_program,Result.andThen_ok,h3,Sem.run_pure,h4,run_underlying h1,h2 w,hpl]
  rw [show (Array.map (fun x:Nat × Operand=>(x.1,ρ x.2)) parts).toList=parts.toList.map fun (x:Nat × Operand)=>(x.1,ρ x.2) from by simp]
  rw [hf]
  rfl
theorem XdF {m:Mp} {w:World} (hR:R m H w) {cs:List PV} {vs:Array Value} (hc:CR m w cs vs.toList) (h1:cs.all XV=true) (e:TypeId) :
    ∃ m',Le m w m' (w.alloc (.cells vs e))∧R m' (H++[some ⟨cs,e,true⟩]) (w.alloc (.cells vs e))∧m'.blk H.length=some (w.heap.size,0,vs.size):=by
  have hl:vs.size=cs.length:=by simpa using hc.1
  obtain ⟨a,b⟩:=hR.new cs e vs (by omega) (XfJ hc h1)
  exact ⟨_,b,a,by simp⟩
theorem XhL [hi:HasI P t size bytes z] (ho:o.op=.alloc t) (hz:z.all (fun x=>x.oneCell')=true):OpW P o E H (.ptr H.length 0) (H++[some ⟨z.map PV.v,t,true⟩]):=fun m w ρ hR hρ=>by
  obtain ⟨i,zv,h3,_,_,h4,h5⟩:=hi.i
  have h1:(z.map PV.v).all XV=true:=by simpa [XV] using hz
  obtain ⟨m',a,b,c⟩:=XdF hR (by rw [h5];exact XtB hz) h1 t (vs:=zv.cells)
  refine ⟨.pointer (some ⟨w.heap.size,0,none⟩),m',w.alloc (.cells zv.cells t),?_,a,b,.ptr (off:=0) c⟩
  simp [execOp,ho,Instr.alloc,zeroValue,typeInfo,h3,h4,newVar,newRow]
theorem XmF {x:Operand} {p:PV} (ho:o.op=.box t x) (hx:E.ev x=some p) (h1:(cellsOf p).all XV=true):OpW P o E H (.ptr H.length 0) (H++[some ⟨cellsOf p,t,true⟩]):=fun m w ρ hR hρ=>by
  obtain ⟨m',a,b,c⟩:=XdF hR (Xbp (hρ x p hx)) h1 t
  refine ⟨.pointer (some ⟨w.heap.size,0,none⟩),m',w.alloc (.cells (ρ x).cells t),?_,a,b,.ptr (off:=0) c⟩
  simp [execOp,ho,Instr.box,newVar,newRow]
theorem Xbd [hu:HasU P t (.slice e)] [hi:HasI P e sz bytes z] {n:Nat} {parts:Array (Nat × Operand)} {ps:List (Nat × PV)} {cs:List PV} (ho:o.op=.buildSlice t n parts) (hp:evp E parts.toList=some ps) (hz:z.all (fun x=>x.oneCell')=true)
    (hzl:Nat.beq z.length sz=true) (hpos:Nat.ble 1 sz=true) (hn:Nat.ble (n * sz) 16777216=true) (hc:Xcl (fun i=>some (i * sz,sz)) ((List.range (n * sz)).map fun j=>.v (z.getD (j % z.length) undef)) ps=some cs) (h1:cs.all XV=true) :
    OpW P o E H (.sx H.length 0 n sz) (H++[some ⟨cs,e,true⟩]):=fun m w ρ hR hρ=>by
  obtain ⟨i,zv,h3,rfl,_,h4,h5⟩:=hi.i
  obtain ⟨e1,e2⟩:=Xeo (m:=m) (w:=w) hρ _ _ hp
  have hzs:zv.cells.size=i.size:=by have:=Nat.eq_of_beq_eq_true hzl;rw [← h5] at this;simpa using this
  have hn':=Nat.le_of_ble_eq_true hn
  have hpos:=Nat.le_of_ble_eq_true hpos
  have hz0:CR m w ((List.range (n * i.size)).map fun j=>PV.v (z.getD (j % z.length) undef)) ((Array.range (n * i.size)).map (zv.cells[· % zv.cells.size]!)).toList:=by
    refine ⟨by simp,fun j c hj=>?_⟩
    rw [List.getElem?_map] at hj
    rcases Nat.lt_or_ge j (n * i.size) with hlt | hge
    · rw [List.getElem?_range hlt] at hj
      simp only [Option.map_some,Option.some.injEq] at hj
      subst hj
      have hm:j % zv.cells.size < zv.cells.size:=Nat.mod_lt _ (by omega)
      have hzl':z.length=zv.cells.size:=by rw [← h5];simp
      have hget:z.getD (j % z.length) undef=zv.cells[j % zv.cells.size]:=by
        rw [hzl']
        simp only [← h5,List.getD_eq_getElem?_getD,Array.getElem?_toList]
        rw [Array.getElem?_eq_getElem hm];rfl
      refine ⟨zv.cells[j % zv.cells.size],?_,?_⟩
      · simp [hlt,hm]
      · rw [hget]
        have:(zv.cells[j % zv.cells.size]).oneCell'=true:=by
          rw [← h5] at hz
          exact List.all_eq_true.1 hz _ (by simp)
        exact Zb7
    · rw [List.getElem?_eq_none (by simpa using hge)] at hj;cases hj
  obtain ⟨vs,hf,hr⟩:=Xck ps (parts.toList.map fun (x:Nat × Operand)=>(x.1,ρ x.2)) _ cs _ e1 e2 hz0 hc
  obtain ⟨m',a,b,c⟩:=XdF hR hr h1 e
  have hsz:vs.size=n * i.size:=by
    have h6:vs.size=cs.length:=by simpa using hr.1
    have h7:cs.length=n * i.size:=by
      have:∀ (ps:List (Nat × PV)) (cells cs:List PV),Xcl (fun j=>some (j * i.size,i.size)) cells ps=some cs→cs.length=cells.length:=by
        intro ps
        induction ps with
        | nil=>intro cells cs h;simp only [Xcl] at h;cases h;rfl
        | cons x r ih =>
          intro cells cs h
          obtain ⟨j,p⟩:=x
          simp only [Xcl] at h
          split at h
          · rw [ih _ _ h,X5]
          · cases h
      rw [this _ _ _ hc];simp
    omega
  have hmax:n≤maxLen:=by
    have:=Nat.le_mul_of_pos_right n hpos
    simp only [maxLen];omega
  refine ⟨.slice (some ⟨w.heap.size,0,none⟩) n n,m',w.alloc (.cells vs e),?_,a,b,?_⟩
  · have hlim:¬ (16777216 < n * i.size):=by omega
    have h24:(2:Nat) ^ 24=16777216:=by decide
    have hparts:(Array.map (fun x:Nat × Operand=>(x.1,ρ x.2)) parts).toList=parts.toList.map fun (x:Nat × Operand)=>(x.1,ρ x.2):=by simp
    simp only [execOp,ho,Instr.buildSlice,Sem.run_bind,run_underlying hu.u,Result.andThen_ok,Xaj h3,h24,gt_iff_lt,hlim,if_false,hparts]
    by_cases h0:n * i.size=0
    · have hr0:∀ f:Nat→Value,Array.map f (Array.range 0)=#[]:=by intro f;simp
      rw [h0,hr0] at hf
      simp only [h0,if_true,Sem.run_bind,Sem.run_pure,Result.andThen_ok,hr0,hf]
      simp [newRow]
    · simp only [h0,if_false,Sem.run_bind,Sem.run_pure,Result.andThen_ok,zeroValue,typeInfo,run_program,h3,h4,hf]
      simp [newRow]
  · exact .sx (d:=0) (off:=0) c hmax (by rw [hsz];simp)
end
end Go.Ev
namespace Go.Ev
open Go.RowKit
theorem R.rewrite {m:Mp} {H:Xh} {w w':World} (h:R m H w) {id b d lim:Nat} {B:Blk} (hi:H[id]?=some (some B)) (ho:B.own=true) (hm:m.blk id=some (b,d,lim)) {cur':Array Value} {cs:List PV}
    (hs:w'.heap.size=w.heap.size) (hos:w'.os=w.os) (ht:w'.tape=w.tape) (hout:w'.output=w.output) (hother:∀ k,k≠b→w'.heap[k]?=w.heap[k]?) (hb:w'.heap[b]?=some (.cells cur' B.elem (0,0)))
    (hsz:cur'.size=lim) (hlen:cs.length≤lim) (hcs:∀ (j:Nat) (c:PV),cs[j]?=some c→∃ v:Value,cur'[j]?=some v∧Rep m w c v∧v.oneCell'=true) :
    R m (H.set id (some { B with cells:=cs })) w'∧Le m w m w':=by
  obtain ⟨rfl,_,hk,_⟩:=h.blk id B b d lim hi hm
  have hk:=hk ho
  have hfree:∀ i C di li,i≠id→H[i]?=some (some C)→m.blk i=some (b,di,li)→False:=fun i C di li hne hi' hm'=>by
    obtain ⟨_,_,h1,h2⟩:=h.blk i C b di li hi' hm'
    cases hown:C.own with
    | true=>exact h.inj i id C B _ _ _ _ _ _ hne hi' hi hown ho hm' hm rfl
    | false=>exact hk (h.rk b (h2 hown))
  obtain ⟨h1,hle⟩:=(h.kill id).world (w':=w') (by omega) hos ht hout (fun k hk'=>hother k (fun e=>hk (e ▸ hk'))) (fun i C bi di li hi' hm'=>hother bi (fun e=>by
    subst e
    rcases XH hi' with ⟨_,e⟩ | ⟨n1,e⟩
    · cases e
    · exact hfree i C di li n1 e hm'))
  refine ⟨?_,hle⟩
  have h2:=h1.put (id:=id) (b:=b) (lim:=lim) { B with cells:=cs } hm ⟨cur',hb,hsz,by simpa using hlen,fun j c hj=>?_⟩ ho hk (fun i C di li hne hi' _ hm'=>by
    rcases XH hi' with ⟨e,_⟩ | ⟨n1,e⟩
    · exact hne e
    · exact hfree i C di li n1 e hm')
  · rwa [List.set_set] at h2
  · obtain ⟨v,a1,a2,a3⟩:=hcs j c hj
    exact ⟨v,by simpa using a1,a2.mono h.rk hle,a3⟩
def XdW (H:Xh) (p:PV) (cs:List PV):Option Xh :=
  match p with
  | .ptr id off=>match H[id]? with
    | some (some B)=>match B.own && Nat.ble (off+cs.length) B.cells.length with
      | true=>some (H.set id (some { B with cells:=X6 B.cells off cs }))
      | false=>none
    | _=>none
  | _=>none
section
variable {P:Program} {E:Env} {H H':Xh} {o:Oper} {t s e:TypeId} {d:TypeDesc} {size bytes sz:Nat} {z:List Value} {fields:Array Field} {k:IntKind} {places:List (Nat × Nat)}
theorem XhO [hi:HasI P t size bytes z] {x y:Operand} {p q:PV} (ho:o.op=.store t x y) (hx:E.ev x=some p) (hy:E.ev y=some q) (hsz:Nat.beq (cellsOf q).length size=true) (h1:(cellsOf q).all XV=true)
    (hs:XdW H p (cellsOf q)=some H'):OpS P o E H H':=fun m w ρ hR hρ=>by
  obtain ⟨i,zv,h3,rfl,_⟩:=hi.i
  have hp:=hρ x p hx
  have hq:=Xbp (hρ y q hy)
  have hqs:(ρ y).cells.size=i.size:=by have:=hq.1;simp at this;rw [this];exact Nat.eq_of_beq_eq_true hsz
  have hp1:=hρ x p hx
  cases p with
  | ptr id off =>
    simp only [XdW] at hs
    split at hs
    · rename_i B hB
      split at hs
      · rename_i hb
        simp only [Bool.and_eq_true,Nat.ble_eq] at hb
        obtain ⟨hown,hle⟩:=hb
        cases hs
        generalize hv:ρ x=v at hp1
        cases hp1 with
        | @ptr _ _ b d lim hm =>
          obtain ⟨rfl,⟨cur,c1,c2,c3,c4⟩,_,_⟩:=hR.blk id B b d lim hB hm
          have hlen:(ρ y).cells.toList.length=(cellsOf q).length:=hq.1
          have h1v:∀ u ∈ (ρ y).cells.toList,u.oneCell'=true:=fun u hu=>by
            obtain ⟨j,hj⟩:=List.mem_iff_getElem?.1 hu
            have hlt:j < (cellsOf q).length:=by rw [← hlen];exact (List.getElem?_eq_some_iff.1 hj).1
            obtain ⟨u',hu',hr,h1'⟩:=XfJ (vs:=(ρ y).cells) hq h1 j _ (List.getElem?_eq_getElem hlt)
            have:u=u':=by
              have e:(ρ y).cells.toList[j]?=some u':=by simpa using hu'
              rw [hj] at e;cases e;rfl
            rwa [this]
          have hst:=run_storeCells_at P b off B.elem (ρ y).cells.toList 0 cur w c1 (by omega) h1v
          have hcurl:cur.toList.length=lim:=by simpa using c2
          have hrow:=setRow_heap w b cur ((cur.toList.take (off+0)++(ρ y).cells.toList++cur.toList.drop (off+0+(ρ y).cells.toList.length)).toArray) B.elem (0,0) c1
          obtain ⟨r1,r2⟩:=hR.rewrite (w':=w.setRow b ((cur.toList.take (off+0)++(ρ y).cells.toList++cur.toList.drop (off+0+(ρ y).cells.toList.length)).toArray)) hB hown hm
            (cur':=(cur.toList.take (off+0)++(ρ y).cells.toList++cur.toList.drop (off+0+(ρ y).cells.toList.length)).toArray) (cs:=X6 B.cells off (cellsOf q))
            (by simp [World.setRow]) rfl rfl rfl (fun k hk=>setRow_other w b k _ hk) hrow
            (by simp only [List.size_toArray,List.length_append,List.length_take,List.length_drop];omega)
            (by rw [X5];omega) (fun j c hj=>by
              rw [XbM _ _ _ _ hle] at hj
              simp only [List.getElem?_toArray,Nat.add_zero]
              by_cases e:off≤j∧j < off+(cellsOf q).length
              · rw [if_pos e] at hj
                obtain ⟨u,a1,a2,a3⟩:=XfJ (vs:=(ρ y).cells) hq h1 _ c hj
                refine ⟨u,?_,a2,a3⟩
                rw [List.append_assoc,List.getElem?_append_right (by simp;omega),List.getElem?_append_left (by simp only [List.length_take];omega)]
                simp only [List.length_take]
                rw [show j - min off cur.toList.length=j - off from by omega]
                simpa using a1
              · rw [if_neg e] at hj
                obtain ⟨u,a1,a2,a3⟩:=c4 j c hj
                refine ⟨u,?_,a2,a3⟩
                have a1':cur.toList[j]?=some u:=by simpa using a1
                have hjl:j < B.cells.length:=(List.getElem?_eq_some_iff.1 hj).1
                rcases Nat.lt_or_ge j off with hlt | hge
                · rw [List.append_assoc,List.getElem?_append_left (by simp;omega),List.getElem?_take,if_pos hlt]
                  exact a1'
                · rw [List.getElem?_append_right (by simp only [List.length_append,List.length_take];omega),List.getElem?_drop]
                  simp only [List.length_append,List.length_take]
                  rw [show off+(ρ y).cells.toList.length+(j - (min off cur.toList.length+(ρ y).cells.toList.length))=j from by omega]
                  exact a1')
          refine ⟨m,_,?_,r2,r1⟩
          have hoff:(⟨b,0+off,none⟩:Addr)=⟨b,off,none⟩:=by simp
          simp only [execOp,ho,hv,Instr.storeAt,Instr.sureAddr,storeVar,Sem.run_bind,Sem.run_pure,Result.andThen_ok,Xaj h3,hqs,ne_eq,not_true_eq_false,if_false,hoff,hst]
      · cases hs
    · cases hs
  | _=>simp [XdW] at hs
def Xq (H:Xh) (sz:Nat):PV→Option (Nat × List PV)
  | .sl id off len sz'=>match Nat.beq sz' sz with
    | true=>match H[id]? with
      | some (some B)=>match Xai (len * sz) (B.cells.drop off) with
        | some cs=>some (len,cs)
        | none=>none
      | _=>none
    | false=>none
  | .sx id off len sz'=>match Nat.beq sz' sz with
    | true=>match H[id]? with
      | some (some B)=>match Xai (len * sz) (B.cells.drop off) with
        | some cs=>some (len,cs)
        | none=>none
      | _=>none
    | false=>none
  | .tr cells len sz'=>match Nat.beq sz' sz with
    | true=>some (len,cells)
    | false=>none
  | .v (.slice none 0 _)=>some (0,[])
  | _=>none
theorem Xbb {m:Mp} {w:World} (hR:R m H w) {p:PV} {n:Nat} {cs:List PV} {v:Value} (h:Rep m w p v) (hs:Xq H sz p=some (n,cs)) :
    ∃ a c,v=.slice a n c∧cs.length=n * sz∧(0 < n→∃ b o us,a=some ⟨b,o,none⟩∧CR m w cs us∧∀ (j:Nat) (u:Value),us[j]?=some u→w.cell? ⟨b,o+j,none⟩=some u):=by
  have list:∀ (cs:List PV) (b o:Nat),(∀ (j:Nat) (c:PV),cs[j]?=some c→∃ u,w.cell? ⟨b,o+j,none⟩=some u∧Rep m w c u)→∃ us,CR m w cs us∧∀ (j:Nat) (u:Value),us[j]?=some u→w.cell? ⟨b,o+j,none⟩=some u:=fun cs b o hc=>by
    refine ⟨(List.range cs.length).map fun j=>(w.cell? ⟨b,o+j,none⟩).getD undef,⟨by simp,fun j c hj=>?_⟩,fun j u hu=>?_⟩
    · have hlt:j < cs.length:=(List.getElem?_eq_some_iff.1 hj).1
      obtain ⟨u,hu,hr⟩:=hc j c hj
      exact ⟨u,by simp [hlt,hu],hr⟩
    · rw [List.getElem?_map] at hu
      rcases Nat.lt_or_ge j cs.length with hlt | hge
      · rw [List.getElem?_range hlt] at hu
        obtain ⟨u',hu',_⟩:=hc j _ (List.getElem?_eq_getElem hlt)
        simp only [Option.map_some,Option.some.injEq,hu',Option.getD_some] at hu
        subst hu
        exact hu'
      · rw [List.getElem?_eq_none (by simpa using hge)] at hu;cases hu
  cases h with
  | @sl id off len sz' b d lim cap hm a1 a2 a3 =>
    simp only [Xq] at hs
    split at hs
    · rename_i hbq
      split at hs
      · rename_i B hB
        split at hs
        · rename_i cs' hcs
          cases hs
          obtain ⟨t1,rfl⟩:=(Xaq _ _ _).1 hcs
          refine ⟨_,_,rfl,by simp only [List.length_take];omega,fun _=>?_⟩
          obtain ⟨us,u1,u2⟩:=list ((B.cells.drop off).take (n * sz)) b (d+off) (fun j c hj=>by
            obtain ⟨_,⟨cur,c1,c2,c3,c4⟩,_⟩:=hR.blk id B b d lim hB hm
            rw [List.getElem?_take] at hj
            split at hj
            · rw [List.getElem?_drop] at hj
              obtain ⟨u,hu,hru,_⟩:=c4 (off+j) c hj
              exact Zcd
            · cases hj)
          exact ⟨b,d+off,us,rfl,u1,u2⟩
        · cases hs
      · cases hs
    · cases hs
  | sl0 a =>
    simp only [Xq] at hs
    split at hs
    · split at hs
      · split at hs
        · rename_i cs' hcs
          cases hs
          obtain ⟨t1,rfl⟩:=(Xaq _ _ _).1 hcs
          exact ⟨_,_,rfl,by simp,fun h=>by omega⟩
        · cases hs
      · cases hs
    · cases hs
  | @sx id off len sz' b d lim hm a2 a3 =>
    simp only [Xq] at hs
    split at hs
    · rename_i hbq
      split at hs
      · rename_i B hB
        split at hs
        · rename_i cs' hcs
          cases hs
          obtain ⟨t1,rfl⟩:=(Xaq _ _ _).1 hcs
          refine ⟨_,_,rfl,by simp only [List.length_take];omega,fun _=>?_⟩
          obtain ⟨us,u1,u2⟩:=list ((B.cells.drop off).take (n * sz)) b (d+off) (fun j c hj=>by
            obtain ⟨_,⟨cur,c1,c2,c3,c4⟩,_⟩:=hR.blk id B b d lim hB hm
            rw [List.getElem?_take] at hj
            split at hj
            · rw [List.getElem?_drop] at hj
              obtain ⟨u,hu,hru,_⟩:=c4 (off+j) c hj
              exact Zcd
            · cases hj)
          exact ⟨b,d+off,us,rfl,u1,u2⟩
        · cases hs
      · cases hs
    · cases hs
  | sx0 a =>
    simp only [Xq] at hs
    split at hs
    · split at hs
      · split at hs
        · rename_i cs' hcs
          cases hs
          obtain ⟨t1,rfl⟩:=(Xaq _ _ _).1 hcs
          exact ⟨_,_,rfl,by simp,fun h=>by omega⟩
        · cases hs
      · cases hs
    · cases hs
  | @tr cells len sz' b o cap f hr hl a1 a2 hc hh =>
    simp only [Xq] at hs
    split at hs
    · rename_i hbq
      cases hs
      have:=Nat.eq_of_beq_eq_true hbq
      subst this
      obtain ⟨us,u1,u2⟩:=list cs b o (fun j c hj=>⟨f j,hc j c hj,hh j c hj⟩)
      exact ⟨_,_,rfl,hl,fun _=>⟨b,o,us,rfl,u1,u2⟩⟩
    · cases hs
  | tr0 a _ =>
    simp only [Xq] at hs
    split at hs
    · cases hs;exact ⟨_,_,rfl,by simp,fun h=>by omega⟩
    · cases hs
  | trn =>
    simp only [Xq] at hs
    split at hs
    · cases hs;exact ⟨_,_,rfl,by simp,fun h=>by omega⟩
    · cases hs
  | v _ hx=>cases v with
    | slice a n' c =>
      cases a with
      | none =>
        cases n' with
        | zero=>simp only [Xq] at hs;cases hs;exact ⟨_,_,rfl,by simp,fun h=>by omega⟩
        | succ n'=>simp [Xq] at hs
      | some a=>simp [Xq] at hs
    | _=>simp [Xq] at hs
  | _=>simp [Xq] at hs
def Xo (H:Xh) (e:TypeId) (sz:Nat) (p:PV) (k:Nat) (xs:List PV):Option (Nat × PV × Xh) :=
  match p with
  | .v (.slice none 0 0)=>some (k,.sl H.length 0 k sz,H++[some ⟨xs,e,true⟩])
  | .sl id 0 len sz'=>match Nat.beq sz' sz with
    | true=>match H[id]? with
      | some (some B)=>match B.own && Nat.beq B.elem e && Nat.beq B.cells.length (len * sz) with
        | true=>some (len+k,.sl H.length 0 (len+k) sz,H.set id none++[some ⟨B.cells++xs,e,true⟩])
        | false=>none
      | _=>none
    | false=>none
  | _=>none
theorem XaV {i:TypeInfo} {w:World} (ht:P.underlying t=some (.slice e)) (hi:P.info? e=some i) (a:Option Addr) (n c:Nat) (hn:n≤c) (b:Option Addr) (c':Nat) (ty:TypeId) :
    (Builtin.append_ #[t,t] ty #[.slice a n c,.slice b 0 c']).run P w=.ok (.slice a n c) w:=by
  cases a <;> cases b <;> simp [Builtin.append_,run_underlying ht,sizeOf,typeInfo,hi,Builtin.lenOf,Builtin.firstCells,hn,storeCells,loadCells,loadCellsFrom]
theorem XiH {m:Mp} {w:World} {ps qs:List PV} {us vs:List Value} (h:CR m w ps us) (k:CR m w qs vs):CR m w (ps++qs) (us++vs):=by
  refine ⟨by simp [h.1,k.1],fun j c hj=>?_⟩
  rcases Nat.lt_or_ge j ps.length with hlt | hge
  · rw [List.getElem?_append_left hlt] at hj
    obtain ⟨u,hu,hr⟩:=h.2 j c hj
    exact ⟨u,by rw [List.getElem?_append_left (by rw [h.1];exact hlt)];exact hu,hr⟩
  · rw [List.getElem?_append_right hge] at hj
    obtain ⟨u,hu,hr⟩:=k.2 _ c hj
    exact ⟨u,by rw [List.getElem?_append_right (by rw [h.1];exact hge),h.1];exact hu,hr⟩
theorem XcS {m:Mp} {w:World} (hR:R m H w) {cs:List PV} {us rest:List Value} (hc:CR m w cs us) (h1:cs.all XV=true) (e:TypeId) {cap n:Nat} (hn:n≤cap) (hm:cap≤maxLen)
    (hsz:us.length+rest.length=cap * sz) :
    ∃ m',Le m w m' (w.drew.alloc (.cells (us++rest).toArray e))∧R m' (H++[some ⟨cs,e,true⟩]) (w.drew.alloc (.cells (us++rest).toArray e)) ∧
      Rep m' (w.drew.alloc (.cells (us++rest).toArray e)) (.sl H.length 0 n sz) (.slice (some ⟨w.heap.size,0,none⟩) n cap):=by
  obtain ⟨hR1,hle1⟩:=hR.drew
  have hl:=hc.1
  obtain ⟨a,b⟩:=hR1.new cs e (us++rest).toArray (by simp;omega) (fun j c hj=>by
    obtain ⟨u,hu,hr⟩:=hc.2 j c hj
    have hlt:j < us.length:=(List.getElem?_eq_some_iff.1 hu).1
    exact ⟨u,by simpa [List.getElem?_append_left hlt] using hu,hr.mono hR.rk hle1,Xbx hr (List.all_eq_true.1 h1 c (List.mem_of_getElem? hj))⟩)
  refine ⟨_,hle1.trans b,a,.sl (d:=0) (off:=0) (lim:=(us++rest).toArray.size) ?_ hn hm ?_⟩
  · show (if H.length=H.length then some (w.drew.heap.size,0,(us++rest).toArray.size) else _)=_
    rw [if_pos rfl];rfl
  · simp;omega
theorem Xdq [hu:HasU P t (.slice e)] [hi:HasI P e sz bytes z] {x y:Operand} {p q r:PV} {k n:Nat} {xs:List PV} (ho:o.op=.call { callee:=.builtin .append,args:=#[x,y],argTypes:=#[t,t] })
    (hx:E.ev x=some p) (hy:E.ev y=some q) (hzl:Nat.beq z.length sz=true) (hq:Xq H sz q=some (k,xs)) (h1:xs.all XV=true) (ha:Xo H e sz p k xs=some (n,r,H')) (hb:n * bytes≤140737488355328) (h63:n≤9223372036854775807):OpW P o E H r H':=fun m w ρ hR hρ=>by
  obtain ⟨i,zv,h3,hsz,hby,h4,h5⟩:=hi.i
  subst hsz
  have hzs:zv.cells.size=i.size:=by have:=Nat.eq_of_beq_eq_true hzl;rw [← h5] at this;simpa using this
  obtain ⟨ay,cy,ey,hlx,hxs⟩:=Xbb hR (hρ y q hy) hq
  have hp:=hρ x p hx
  generalize hv:ρ x=vx at hp
  have hexec:∀ v' w',(Builtin.append_ #[t,t] o.type #[vx,.slice ay k cy]).run P w=.ok v' w'→(execOp ρ o).run P w=.ok (.value v') w':=fun v' w' h=>by
    simp [execOp,ho,resolve,invoke,builtin,ey,hv,h]
  have hmaxn:n≤maxLen:=by simp only [maxLen];omega
  rcases Nat.eq_zero_or_pos k with hk0 | hkp
  ·
    subst hk0
    have hxs0:xs=[]:=List.eq_nil_of_length_eq_zero (by simpa using hlx)
    subst hxs0
    cases hp with
    | v _ hv' =>
      cases vx with
      | slice a n' c =>
        cases a with
        | none =>
          cases n' with
          | zero =>
            cases c with
            | zero =>
              simp only [Xo] at ha
              cases ha
              exact Zc2
            | succ c=>simp [Xo] at ha
          | succ n'=>simp [Xo] at ha
        | some a=>simp [Xo] at ha
      | _=>simp [Xo] at ha
    | @sl id off len sz' b d lim cap hm a1 a2 a3 =>
      cases off with
      | succ off=>simp [Xo] at ha
      | zero =>
        simp only [Xo] at ha
        split at ha
        · rename_i hbq
          have hbq:=Nat.eq_of_beq_eq_true hbq
          split at ha
          · rename_i B hB
            split at ha
            · rename_i hc
              simp only [Bool.and_eq_true] at hc
              obtain ⟨⟨hown,hel⟩,hlen⟩:=hc
              have hel:=Nat.eq_of_beq_eq_true hel
              have hlen:=Nat.eq_of_beq_eq_true hlen
              cases ha
              subst hbq
              obtain ⟨rfl,⟨cur,c1,c2,c3,c4⟩,hk,_⟩:=hR.blk id B b d lim hB hm
              obtain ⟨r1,r2⟩:=(hR.kill id).add (b:=b) (lim:=lim) ⟨B.cells++[],e,true⟩ ⟨cur,by rw [← hel];exact c1,c2,by simpa using c3,fun j c hj=>c4 j c (by simpa using hj)⟩ rfl (hk hown) (fun j C dj lj hj hoj hmj=>by
                rcases XH hj with ⟨_,e⟩ | ⟨n1,e⟩
                · cases e
                · exact hR.inj j id C B _ _ _ _ _ _ n1 e hB hoj hown hmj hm rfl)
              refine ⟨.slice (some ⟨b,0+0,none⟩) len cap,_,w,hexec _ _ (XaV hu.u h3 _ _ _ a1 ay cy _),r2,r1,?_⟩
              simp only [List.length_set]
              exact .sl (d:=0) (off:=0) (lim:=lim) (by simp) a1 a2 (by simpa using a3)
            · cases ha
          · cases ha
        · cases ha
    | @sl0 id off sz' a =>
      cases off with
      | succ off=>simp [Xo] at ha
      | zero =>
        simp only [Xo] at ha
        split at ha
        · split at ha
          · split at ha
            · cases ha
              exact Zc3
            · cases ha
          · cases ha
        · cases ha
    | _=>simp [Xo] at ha
  · obtain ⟨by_,oy,us,eay,hus,hcell⟩:=hxs hkp
    subst eay
    have husl:us.length=k * i.size:=hus.1.trans hlx
    have hnews:∀ (j:Nat) (v:Value),us[j]?=some v→w.cell? ((⟨by_,oy,none⟩:Addr).add j)=some v:=fun j v hj=>by rw [Addr.add_mk];exact hcell j v hj
    have h1u:∀ u ∈ us,u.oneCell'=true:=fun u hu=>by
      obtain ⟨j,hj⟩:=List.mem_iff_getElem?.1 hu
      have hlt:j < xs.length:=by rw [← hus.1];exact (List.getElem?_eq_some_iff.1 hj).1
      obtain ⟨u',hu',hr⟩:=hus.2 j _ (List.getElem?_eq_getElem hlt)
      rw [hj] at hu';cases hu'
      exact ZbB
    have fresh:∀ (G:Xh) (hG:R m G w),n=k→∀ a,vx=.slice a 0 0→∃ v m' w',(execOp ρ o).run P w=.ok (.value v) w'∧Le m w m' w'∧R m' (G++[some ⟨xs,e,true⟩]) w'∧Rep m' w' (.sl G.length 0 k i.size) v:=fun G hG hnk a hvx=>by
      subst hnk
      have hkb:n * i.bytes≤140737488355328:=by rw [hby];exact hb
      have hcap:n≤grownCap w n 0 e:=grownCap_ge w n 0 e
      have hcm:=grownCap_le_maxLen w n 0 e hmaxn
      obtain ⟨m',g1,g2,g3⟩:=XcS (sz:=i.size) (rest:=(Builtin.zeroCells zv.cells (grownCap w n 0 e - n)).toList) hG hus h1 e hcap hcm (by
        rw [husl,Array.length_toList,size_zeroCells,hzs,← Nat.add_mul];congr 1;omega)
      have harr:(us++(Builtin.zeroCells zv.cells (grownCap w n 0 e - n)).toList).toArray=us.toArray++Builtin.zeroCells zv.cells (grownCap w n 0 e - n):=by
        apply Array.ext';simp
      rw [harr] at g1 g2 g3
      refine ⟨_,m',_,?_,g1,g2,g3⟩
      cases a with
      | none=>exact hexec _ _ (by rw [hvx];exact run_append_nil (P:=P) w t _ e i zv hu.u h3 h4 ⟨by_,oy,none⟩ n cy us husl hnews hkp (by omega) (by omega))
      | some a =>
        have hg:=run_append_grow (P:=P) w t o.type e i zv hu.u h3 h4 a 0 0 [] (by simp) (by simp) ⟨by_,oy,none⟩ n cy us husl hnews (by omega) (by omega) (growslice_fits (by omega) (by simpa using hkb))
        simp only [Nat.zero_add] at hg
        refine hexec _ _ ?_
        rw [hvx,hg]
        simp
    cases hp with
    | v _ hv' =>
      cases vx with
      | slice a n' c =>
        cases a with
        | none =>
          cases n' with
          | zero =>
            cases c with
            | zero =>
              simp only [Xo] at ha
              cases ha
              exact fresh H hR rfl none rfl
            | succ c=>simp [Xo] at ha
          | succ n'=>simp [Xo] at ha
        | some a=>simp [Xo] at ha
      | _=>simp [Xo] at ha
    | @sl0 id off sz' a =>
      cases off with
      | succ off=>simp [Xo] at ha
      | zero =>
        simp only [Xo] at ha
        split at ha
        · split at ha
          · rename_i B hB
            split at ha
            · rename_i hc
              simp only [Bool.and_eq_true] at hc
              have hlen:=Nat.eq_of_beq_eq_true hc.2
              have hB0:B.cells=[]:=List.eq_nil_of_length_eq_zero (by simpa using hlen)
              cases ha
              rw [hB0]
              have:=fresh (H.set id none) (hR.kill id) (by omega) a rfl
              simpa using this
            · cases ha
          · cases ha
        · cases ha
    | @sl id off len sz' b d lim cap hm a1 a2 a3 =>
      cases off with
      | succ off=>simp [Xo] at ha
      | zero =>
        simp only [Xo] at ha
        split at ha
        · rename_i hbq
          have hbq:=Nat.eq_of_beq_eq_true hbq
          split at ha
          · rename_i B hB
            split at ha
            · rename_i hc
              simp only [Bool.and_eq_true] at hc
              obtain ⟨⟨hown,hel⟩,hlen⟩:=hc
              have hel:=Nat.eq_of_beq_eq_true hel
              have hlen:=Nat.eq_of_beq_eq_true hlen
              cases ha
              subst hbq
              obtain ⟨rfl,⟨cur,c1,c2,c3,c4⟩,hk,_⟩:=hR.blk id B b d lim hB hm
              rw [hel] at c1
              have hcapsz:cap * i.size≤cur.size:=by rw [c2];simpa using a3
              have hlsz:len * i.size≤cur.size:=Nat.le_trans (Nat.mul_le_mul_right _ a1) hcapsz
              have holdl:(cur.toList.take (len * i.size)).length=len * i.size:=by simp;omega
              have holds:CR m w B.cells (cur.toList.take (len * i.size)):=by
                refine ⟨by rw [holdl,hlen],fun j c hj=>?_⟩
                obtain ⟨u,u1,u2,_⟩:=c4 j c hj
                have hjl:j < len * i.size:=by rw [← hlen];exact (List.getElem?_eq_some_iff.1 hj).1
                exact ⟨u,by rw [List.getElem?_take,if_pos hjl];simpa using u1,u2⟩
              have hB1:(B.cells++xs).all XV=true:=by
                rw [List.all_append,h1,Bool.and_true]
                refine List.all_eq_true.2 fun c hc=>?_
                obtain ⟨j,hj⟩:=List.mem_iff_getElem?.1 hc
                obtain ⟨u,_,u2,u3⟩:=c4 j c hj
                cases c <;> first | rfl | skip
                · cases u2;exact u3
                · cases u2;exact absurd u3 (by simp [Value.oneCell'])
                · cases u2;exact absurd u3 (by simp [Value.oneCell'])
              have happ:=XiH holds hus
              have hfree:∀ (j:Nat) (C:Blk) (dj lj:Nat),(H.set id none)[j]?=some (some C)→C.own=true→m.blk j≠some (b,dj,lj):=fun j C dj lj hj hoj hmj=>by
                rcases XH hj with ⟨_,e⟩ | ⟨n1,e⟩
                · cases e
                · exact ZbC
              by_cases hroom:len+k≤cap
              ·
                have hr:=run_append_room (P:=P) w t o.type e i hu.u h3 b len cap cur c1 ⟨by_,oy,none⟩ k cy us husl hnews h1u hroom (by rw [husl,← Nat.add_mul];exact Nat.le_trans (Nat.mul_le_mul_right _ hroom) hcapsz)
                have hrow:=setRow_heap w b cur ((cur.toList.take (len * i.size)++us++cur.toList.drop (len * i.size+us.length)).toArray) e (0,0) c1
                have hbk:=hk hown
                obtain ⟨q1,q2⟩:=(hR.kill id).world (w':=w.setRow b ((cur.toList.take (len * i.size)++us++cur.toList.drop (len * i.size+us.length)).toArray)) (by simp [World.setRow]) rfl rfl rfl
                  (fun k' hk'=>setRow_other w b k' _ (fun e=>hbk (e ▸ hk'))) (fun j C bj dj lj hj hmj=>setRow_other w b bj _ (fun e=>by
                    subst e
                    cases hoC:C.own with
                    | true=>exact hfree j C dj lj hj hoC hmj
                    | false =>
                      rcases XH hj with ⟨_,e⟩ | ⟨_,e⟩
                      · cases e
                      · exact hbk (hR.rk _ ((hR.blk j C _ dj lj e hmj).2.2.2 hoC))))
                have hsz2:((cur.toList.take (len * i.size)++us++cur.toList.drop (len * i.size+us.length)).toArray).size=lim:=by
                  have:len * i.size+us.length≤cur.size:=by rw [husl,← Nat.add_mul];exact Nat.le_trans (Nat.mul_le_mul_right _ hroom) hcapsz
                  simp only [List.size_toArray,List.length_append,holdl,List.length_drop,Array.length_toList];omega
                obtain ⟨r1,r2⟩:=q1.add (b:=b) (lim:=lim) ⟨B.cells++xs,e,true⟩ ⟨_,hrow,hsz2,by
                    rw [← hsz2];simp only [List.size_toArray,List.length_append,holdl,hlen,hus.1];omega,fun j c hj=>by
                    obtain ⟨u,u1,u2⟩:=happ.2 j c hj
                    refine ⟨u,?_,u2.mono hR.rk q2,Xbx u2 (List.all_eq_true.1 hB1 c (List.mem_of_getElem? hj))⟩
                    simp only [List.getElem?_toArray,Nat.zero_add]
                    rw [List.getElem?_append_left ((List.getElem?_eq_some_iff.1 u1).1)]
                    exact u1⟩ rfl hbk hfree
                refine ⟨.slice (some ⟨b,0,none⟩) (len+k) cap,_,_,hexec _ _ (by simpa using hr),q2.trans r2,r1,?_⟩
                simp only [List.length_set]
                exact .sl (d:=0) (off:=0) (lim:=lim) (by simp) hroom a2 (by simpa using a3)
              ·
                have holdv:∀ (j:Nat) (v:Value),(cur.toList.take (len * i.size))[j]?=some v→w.cell? ((⟨b,0,none⟩:Addr).add j)=some v:=fun j v hj=>by
                  rw [Addr.add_mk,cell_of_row w b _ cur e (0,0) c1]
                  rw [List.getElem?_take] at hj
                  split at hj
                  · simpa using hj
                  · cases hj
                have hkb:(len+k) * i.bytes≤140737488355328:=by rw [hby];exact hb
                have hg:=run_append_grow (P:=P) w t o.type e i zv hu.u h3 h4 ⟨b,0,none⟩ len cap (cur.toList.take (len * i.size)) holdl holdv ⟨by_,oy,none⟩ k cy us husl hnews (by omega) (by omega) (growslice_fits (by omega) hkb)
                have hcap:=grownCap_ge w (len+k) cap e
                have hcm:=grownCap_le_maxLen w (len+k) cap e hmaxn
                obtain ⟨m',g1,g2,g3⟩:=XcS (sz:=i.size) (rest:=(Builtin.zeroCells zv.cells (grownCap w (len+k) cap e - (len+k))).toList) (hR.kill id) happ hB1 e hcap hcm (by
                  rw [List.length_append,holdl,husl,Array.length_toList,size_zeroCells,hzs,← Nat.add_mul,← Nat.add_mul];congr 1;omega)
                have harr:(cur.toList.take (len * i.size)++us++(Builtin.zeroCells zv.cells (grownCap w (len+k) cap e - (len+k))).toList).toArray=(cur.toList.take (len * i.size)).toArray++us.toArray++Builtin.zeroCells zv.cells (grownCap w (len+k) cap e - (len+k)):=by
                  apply Array.ext';simp
                rw [harr] at g1 g2 g3
                exact ZbD
            · cases ha
          · cases ha
        · cases ha
    | _=>simp [Xo] at ha
end
end Go.Ev
