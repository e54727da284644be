/- Part of the proof: the walk over the program and its laws: EvB. -/
import Derived.RangeFuncNested
import Derived.Test.YtlcphjcpoinolaaGreatP0
import Derived.Test.YtlcphjcpoinolaaGreatP5
set_option linter.unusedVariables false
namespace Go.Ev
open Go.RowKit
inductive XO where
  | loop (st:LoopState) (pend:Option Code) (fn:FuncId) (E:Env) (n:Nat) (params:Array Tmp) (assign body:Code) (d:Nat)
  | dfr (live:Bool)
  | map (es:List (Value × Value × Nat)) (clock:Nat)
  | sit (s:ByteArray) (pos:Nat)
  | mit (of_:Option Nat) (since:Nat) (seen:Array Nat) (last:Nat)
def Xao (e:Value × Value × Nat):MapEntry:={ key:=e.1,val:=e.2.1,born:=e.2.2 }
def Xgx (m:Mp) (w:World):XO→Obj→Prop
  | .loop st pend _ E n params assign body d,o=>∃ tmps D fn,o=.loop { state:=st,pending:=pend,fn,tmps,params,assign,body,defers:=D }∧tmps.size=n∧m.xb d=some D ∧
      ∀ t p,E.get t=some p→Rep m w p (tmps.getD t undef)
  | .dfr true,o=>o=.deferred (some [])
  | .dfr false,o=>o=.deferred none
  | .map es clock,o=>o=.map (es.map Xao).toArray clock
  | .sit s pos,o=>o=.stringIter s pos
  | .mit none since seen last,o=>o=.mapIter none since seen last
  | .mit (some i) since seen last,o=>∃ b,m.xb i=some b∧o=.mapIter (some b) since seen last
structure St where
  H:HP Blk
  X:List XO
def plus (m:Mp):Mp:={ m with keep:=fun b=>m.keep b∨∃ id,m.xb id=some b }
structure RX (m:Mp) (s:St) (w:World):Prop where
  r:R (plus m) s.H.list w
  rk:∀ b,m.ro b→m.keep b
  kx:∀ id b,m.xb id=some b→¬ m.keep b
  dom:∀ id b,m.xb id=some b→id < s.X.length
  obj:∀ id x,s.X[id]?=some x→∃ b o,m.xb id=some b∧w.heap[b]?=some o∧Xgx m w x o
  inj:∀ i j b,m.xb i=some b→m.xb j=some b→i=j
structure Lx (m:Mp) (w:World) (m':Mp) (w':World):Prop where
  blk:∀ id x,m.blk id=some x→m'.blk id=some x
  xb:∀ id b,m.xb id=some b→m'.xb id=some b
  ro:m'.ro=m.ro
  keep:m'.keep=m.keep
  same:∀ b,m.keep b→w'.heap[b]?=w.heap[b]?
  size:w.heap.size≤w'.heap.size
  os:w'.os=w.os
  tape:w'.tape=w.tape
  output:w'.output=w.output
  top:m'.top=m.top
  old:∀ id,id < m.top→m'.blk id=m.blk id
theorem Lx.refl (m:Mp) (w:World):Lx m w m w:=⟨fun _ _ h=>h,fun _ _ h=>h,rfl,rfl,fun _ _=>rfl,Nat.le_refl _,rfl,rfl,rfl,rfl,fun _ _=>rfl⟩
theorem Lx.trans {m m1 m2:Mp} {w w1 w2:World} (h:Lx m w m1 w1) (k:Lx m1 w1 m2 w2):Lx m w m2 w2 :=
  ⟨fun i x hx=>k.blk i x (h.blk i x hx),fun i x hx=>k.xb i x (h.xb i x hx),k.ro.trans h.ro,k.keep.trans h.keep,fun b hb=>(k.same b (by rw [h.keep];exact hb)).trans (h.same b hb),
    Nat.le_trans h.size k.size,k.os.trans h.os,k.tape.trans h.tape,k.output.trans h.output,k.top.trans h.top,fun id hid=>(k.old id (by rw [h.top];exact hid)).trans (h.old id hid)⟩
theorem Rep.mx {m m':Mp} {w w':World} (hk:∀ b,m.ro b→m.keep b) (h:Lx m w m' w') {p:PV} {v:Value} (r:Rep m w p v):Rep m' w' p v :=
  r.mono' h.blk h.xb (fun b hb=>by rw [h.ro];exact hb) fun b _ hb=>World.cell?_of_block (h.same b (hk b hb))
theorem Rep.plus {m:Mp} {w:World} {p:PV} {v:Value} (r:Rep m w p v):Rep (Ev.plus m) w p v:=Rep.mono' (m:=m) (w:=w) (m':=Ev.plus m) (w':=w) (fun _ _ h=>h) (fun _ _ h=>h) (fun _ h=>h) (fun _ _ _=>rfl) r
theorem Rep.unplus {m:Mp} {w:World} {p:PV} {v:Value} (r:Rep (Ev.plus m) w p v):Rep m w p v:=Rep.mono' (m:=Ev.plus m) (w:=w) (m':=m) (w':=w) (fun _ _ h=>h) (fun _ _ h=>h) (fun _ h=>h) (fun _ _ _=>rfl) r
theorem Xgx.mono {m m':Mp} {w w':World} (hb:∀ id x,m.blk id=some x→m'.blk id=some x) (hxb:∀ id b,m.xb id=some b→m'.xb id=some b) (hro:∀ b,m.ro b→m'.ro b) (hcell:∀ (b o:Nat),m.ro b→w'.cell? ⟨b,o,none⟩=w.cell? ⟨b,o,none⟩)
    {x:XO} {o:Obj} (h:Xgx m w x o):Xgx m' w' x o:=by
  cases x with
  | loop st pend fn E n params assign body d =>
    obtain ⟨tmps,D,fn',h1,h2,h3,h4⟩:=h
    exact ⟨tmps,D,fn',h1,h2,hxb _ _ h3,fun t p ht=>(h4 t p ht).mono' hb hxb hro hcell⟩
  | dfr l=>cases l <;> exact h
  | map es c=>exact h
  | sit s p=>exact h
  | mit f a b c =>
    cases f with
    | none=>exact h
    | some i=>obtain ⟨b',h1,h2⟩:=h;exact ⟨b',hxb _ _ h1,h2⟩
theorem Xgx.mx {m m':Mp} {w w':World} (hk:∀ b,m.ro b→m.keep b) (h:Lx m w m' w') {x:XO} {o:Obj} (r:Xgx m w x o):Xgx m' w' x o :=
  Xgx.mono h.blk h.xb (fun b hb=>by rw [h.ro];exact hb) (fun b _ hb=>World.cell?_of_block (h.same b (hk b hb))) r
theorem RX.op {m m1:Mp} {s:St} {w w':World} {H':HP Blk} (h:RX m s w) (hle:Le (plus m) w m1 w') (hR:R m1 H'.list w') :
    ∃ m',Lx m w m' w'∧RX m' ⟨H',s.X⟩ w'∧∀ p v,Rep m1 w' p v→Rep m' w' p v:=by
  have e1:m1.xb=m.xb:=hle.xb
  have e2:m1.ro=m.ro:=hle.ro
  have e3:m1.keep=(plus m).keep:=hle.keep
  have hL:Lx m w { m1 with keep:=m.keep } w':=⟨hle.blk,fun id b hb=>by show m1.xb id=some b;rw [e1];exact hb,e2,rfl,fun b hb=>hle.same b (.inl hb),hle.size,hle.os,hle.tape,hle.output,hle.top,hle.old⟩
  have hp:plus { m1 with keep:=m.keep }=m1:=by
    obtain ⟨blk,xb,ro,keep,top⟩:=m1
    simp only at e1 e3
    subst e1;subst e3
    rfl
  refine ⟨{ m1 with keep:=m.keep },hL,⟨by rw [hp];exact hR,fun b hb=>h.rk b (by rw [← e2];exact hb),fun id b hb=>h.kx id b (by rw [← e1];exact hb),fun id b hb=>h.dom id b (by rw [← e1];exact hb),fun id x hx=>?_,fun i j b hi hj=>h.inj i j b (by rw [← e1];exact hi) (by rw [← e1];exact hj)⟩,
    fun p v hr=>Rep.mono' (m:=m1) (w:=w') (m':={ m1 with keep:=m.keep }) (w':=w') (fun _ _ h=>h) (fun _ _ h=>h) (fun _ h=>h) (fun _ _ _=>rfl) hr⟩
  obtain ⟨b,o,h1,h2,h3⟩:=h.obj id x hx
  exact ⟨b,o,by show m1.xb id=some b;rw [e1];exact h1,(hle.same b (.inr ⟨id,h1⟩)).trans h2,h3.mx h.rk hL⟩
theorem RX.drew {m:Mp} {s:St} {w:World} (h:RX m s w):RX m s w.drew∧Lx m w m w.drew:=by
  obtain ⟨a,b⟩:=h.r.drew
  refine ⟨⟨a,h.rk,h.kx,h.dom,fun id x hx=>?_,h.inj⟩,⟨fun _ _ h=>h,fun _ _ h=>h,rfl,rfl,fun _ _=>rfl,Nat.le_refl _,rfl,rfl,rfl,rfl,fun _ _=>rfl⟩⟩
  obtain ⟨b,o,h1,h2,h3⟩:=h.obj id x hx
  exact ⟨b,o,h1,h2,Xgx.mono (m:=m) (w:=w) (m':=m) (w':=w.drew) (fun _ _ h=>h) (fun _ _ h=>h) (fun _ h=>h) (fun _ _ _=>rfl) h3⟩
theorem Xrs {X:List XO} {id i:Nat} {x y:XO} (h:(X.set id x)[i]?=some y):(i=id∧y=x)∨(i≠id∧X[i]?=some y):=by
  by_cases e:i=id
  · subst e
    rw [List.getElem?_set_self'] at h
    cases hh:X[i]? with
    | none=>rw [hh] at h;simp at h
    | some z=>rw [hh] at h;simp at h;exact .inl ⟨rfl,h.symm⟩
  · rw [List.getElem?_set_ne (fun e'=>e e'.symm)] at h
    exact .inr ⟨e,h⟩
theorem R.putObj {m:Mp} {H:Xh} {w:World} (h:R m H w) {b:Nat} {o o':Obj} (ho:w.heap[b]?=some o) (hc:o.isCells=false) (hro:¬ m.ro b):R m H (w.putObj b o'):=by
  have hne:∀ c:Nat,(∃ cur e f,w.heap[c]?=some (.cells cur e f))→c≠b:=fun c ⟨cur,e,f,hcur⟩ hcb=>by
    subst hcb;rw [ho] at hcur;cases hcur;simp [Obj.isCells] at hc
  have hcell:∀ (c x:Nat),m.ro c→(w.putObj b o').cell? ⟨c,x,none⟩=w.cell? ⟨c,x,none⟩:=fun c x hc' =>
    World.cell?_of_block (World.putObj_heap_other (fun e=>hro (e ▸ hc')))
  refine ⟨h.rk,fun c hk=>by simpa using h.kl c hk,h.dom,fun id B c d lim hi hm=>?_,h.inj,h.top⟩
  obtain ⟨h0,⟨cur,h1,h2,h3,h4⟩,h5,h6⟩:=h.blk id B c d lim hi hm
  refine ⟨h0,⟨cur,?_,h2,h3,fun j p hj=>?_⟩,h5,h6⟩
  · rw [World.putObj_heap_other (hne c ⟨_,_,_,h1⟩)];exact h1
  · obtain ⟨v,hv,hr,h1v⟩:=h4 j p hj
    exact ⟨v,hv,hr.mono' (fun _ _ h=>h) (fun _ _ h=>h) (fun _ h=>h) hcell,h1v⟩
theorem Xgx.notCells {m:Mp} {w:World} {x:XO} {o:Obj} (h:Xgx m w x o):o.isCells=false:=by
  cases x with
  | loop=>obtain ⟨_,_,_,rfl,_⟩:=h;rfl
  | dfr l=>cases l <;> (simp only [Xgx] at h;subst h;rfl)
  | map=>simp only [Xgx] at h;subst h;rfl
  | sit=>simp only [Xgx] at h;subst h;rfl
  | mit f =>
    cases f with
    | none=>simp only [Xgx] at h;subst h;rfl
    | some i=>obtain ⟨_,_,rfl⟩:=h;rfl
theorem RX.setX {m:Mp} {s:St} {w:World} (h:RX m s w) {id b:Nat} {x x':XO} {o':Obj} (hx:s.X[id]?=some x) (hb:m.xb id=some b) (ho':Xgx m w x' o') :
    RX m ⟨s.H,s.X.set id x'⟩ (w.putObj b o')∧Lx m w m (w.putObj b o'):=by
  obtain ⟨b',o,h1,h2,h3⟩:=h.obj id x hx
  rw [hb] at h1;cases h1
  have hlt:b < w.heap.size:=(Array.getElem?_eq_some_iff.1 h2).1
  have hnk:¬ m.keep b:=h.kx id b hb
  have hnr:¬ m.ro b:=fun hr=>hnk (h.rk b hr)
  have hL:Lx m w m (w.putObj b o'):=⟨fun _ _ h=>h,fun _ _ h=>h,rfl,rfl,fun c hc=>World.putObj_heap_other (fun e=>hnk (e ▸ hc)),by simp,rfl,rfl,rfl,rfl,fun _ _=>rfl⟩
  refine ⟨⟨h.r.putObj h2 h3.notCells hnr,h.rk,h.kx,fun i c hc=>by simpa using h.dom i c hc,fun i y hy=>?_,h.inj⟩,hL⟩
  rcases Xrs hy with ⟨rfl,rfl⟩ | ⟨hne,hy⟩
  · exact ⟨b,o',hb,World.putObj_heap_same hlt,ho'.mx h.rk hL⟩
  · obtain ⟨c,oc,k1,k2,k3⟩:=h.obj i y hy
    exact ⟨c,oc,k1,(World.putObj_heap_other (fun e=>hne (h.inj i id c k1 (by rw [e];exact hb)))).trans k2,k3.mx h.rk hL⟩
theorem RX.newX {m:Mp} {s:St} {w:World} (h:RX m s w) {x:XO} {o:Obj} (ho:Xgx m w x o) :
    ∃ m',m'.xb s.X.length=some w.heap.size∧RX m' ⟨s.H,s.X++[x]⟩ (w.alloc o)∧Lx m w m' (w.alloc o):=by
  have hR1:=h.r.alloc_any o
  have hL:Lx m w { m with xb:=fun i=>if i=s.X.length then some w.heap.size else m.xb i } (w.alloc o) :=
    ⟨fun _ _ h=>h,fun id b hb=>by
      have:=h.dom id b hb
      show (if id=s.X.length then some w.heap.size else m.xb id)=some b
      rw [if_neg (by omega)];exact hb,rfl,rfl,fun b hb=>Below.heap_alloc w o b (h.r.kl b (.inl hb)),by simp,rfl,rfl,rfl,rfl,fun _ _=>rfl⟩
  have hx:∀ id b,(if id=s.X.length then some w.heap.size else m.xb id)=some b→(id=s.X.length∧b=w.heap.size)∨(id < s.X.length∧m.xb id=some b):=fun id b hb=>by
    by_cases e:id=s.X.length
    · rw [if_pos e] at hb;cases hb;exact .inl ⟨e,rfl⟩
    · rw [if_neg e] at hb;exact .inr ⟨h.dom id b hb,hb⟩
  have hlt:∀ id b,m.xb id=some b→b < w.heap.size:=fun id b hb=>h.r.kl b (.inr ⟨id,hb⟩)
  refine ⟨{ m with xb:=fun i=>if i=s.X.length then some w.heap.size else m.xb i },by simp,⟨?_,h.rk,fun id b hb=>?_,fun id b hb=>?_,fun id y hy=>?_,fun i j b hi hj=>?_⟩,hL⟩
  ·
    obtain ⟨⟨a1,a2,a3,a4,a5,a6⟩,ale⟩:=hR1
    refine ⟨fun b hb=>.inl (h.rk b hb),fun b hb=>?_,a3,fun id B b d lim hi hm=>?_,a5,a6⟩
    · rcases hb with hb | ⟨id,hb⟩
      · exact a2 b (.inl hb)
      · rcases hx id b hb with ⟨_,rfl⟩ | ⟨_,hb⟩
        · simp
        · exact a2 b (.inr ⟨id,hb⟩)
    · obtain ⟨h0,⟨cur,h1,h2,h3,h4⟩,h5,h6⟩:=a4 id B b d lim hi hm
      refine ⟨h0,⟨cur,h1,h2,h3,fun j p hj=>?_⟩,fun hown hk=>?_,h6⟩
      · obtain ⟨v,hv,hr,h1v⟩:=h4 j p hj
        exact ⟨v,hv,(Rep.mono' (m:=Ev.plus m) (w:=w.alloc o) (w':=w.alloc o) hL.blk hL.xb (fun _ h=>h) (fun _ _ _=>rfl) hr).plus,h1v⟩
      · rcases hk with hk | ⟨id',hk⟩
        · exact h5 hown (.inl hk)
        · rcases hx id' b hk with ⟨_,e⟩ | ⟨_,hk⟩
          · exact absurd (h.r.lt hi hm) (by omega)
          · exact h5 hown (.inr ⟨id',hk⟩)
  · rcases hx id b hb with ⟨_,rfl⟩ | ⟨_,hb⟩
    · intro hk
      have:=h.r.kl _ (.inl hk)
      omega
    · exact h.kx id b hb
  · rcases hx id b hb with ⟨rfl,_⟩ | ⟨hl,_⟩
    · simp
    · simp;omega
  · rcases Nat.lt_or_ge id s.X.length with hlt2 | hge
    · rw [List.getElem?_append_left hlt2] at hy
      obtain ⟨c,oc,k1,k2,k3⟩:=h.obj id y hy
      exact ⟨c,oc,hL.xb id c k1,(Below.heap_alloc w o c (hlt id c k1)).trans k2,k3.mx h.rk hL⟩
    · have e:id=s.X.length:=by
        have:=(List.getElem?_eq_some_iff.1 hy).1
        simp at this
        omega
      subst e
      simp at hy
      subst hy
      exact ⟨w.heap.size,o,by simp,World.alloc_heap_new w o,ho.mx h.rk hL⟩
  · rcases hx i b hi with ⟨e1,e2⟩ | ⟨h1,h1'⟩
    · rcases hx j b hj with ⟨e3,_⟩ | ⟨_,h2'⟩
      · omega
      · have:=hlt j b h2';omega
    · rcases hx j b hj with ⟨_,e4⟩ | ⟨_,h2'⟩
      · have:=hlt i b h1';omega
      · exact h.inj i j b h1' h2'
end Go.Ev
namespace Go.Ev
open Go.RowKit
structure TI where
  desc:TypeDesc
  size:Nat
  bytes:Nat
  zero:List Value
  places:List (Nat × Nat)
  sc:Option Value
structure Tab where
  P:Program
  ti:TypeId→Option TI
  fn:FuncId→Option Func
  ext:FuncId→Bool
def Xd8 (P:Program) {α:Type}:Sem α→Option α
  | .pure a=>some a
  | .program k=>Xd8 P (k P)
  | _=>none
def Xgo (z:List Value):Bool:=z.all fun x=>x.oneCell'
def vOf (v:Value):Option PV:=match Xe3 v with
  | true=>some (.v v)
  | false=>none
def XlU:PV→Option Nat
  | .v (.int _ (.ofNat k))=>some k
  | _=>none
def XbS (T:Tab) (t:TypeId):Option (TypeId × TI):=match T.ti t with
  | some i=>match i.desc with
    | .slice e=>match T.ti e with
      | some j=>some (e,j)
      | none=>none
    | _=>none
  | none=>none
def Xhe:PV→Option Bool
  | .v (.slice none 0 0)=>some true
  | .sx _ _ _ _=>some false
  | .sl _ _ (_+1) _=>some false
  | _=>none
def ikN:IntKind→Nat
  | .i8=>0 | .i16=>1 | .i32=>2 | .i64=>3 | .u8=>4 | .u16=>5 | .u32=>6 | .u64=>7
def XlV:Int→Int→Bool
  | .ofNat a,.ofNat b=>Nat.beq a b
  | .negSucc a,.negSucc b=>Nat.beq a b
  | _,_=>false
def XhV:Int→Int→Bool
  | .ofNat a,.ofNat b=>Nat.blt a b
  | .negSucc _,.ofNat _=>true
  | .ofNat _,.negSucc _=>false
  | .negSucc a,.negSucc b=>Nat.blt b a
def vb (b:Bool):Option PV:=some (.v (.bool b))
def Xwq (op:BinOp) (k:IntKind) (a b:Int):Option PV :=
  match op with
  | .eql=>vb (XlV a b)
  | .neq=>vb (!XlV a b)
  | .lss=>vb (XhV a b)
  | .leq=>vb (!XhV b a)
  | .gtr=>vb (XhV b a)
  | .geq=>vb (!XhV a b)
  | .add=>match k,a,b with
    | .i64,.ofNat x,.ofNat y=>match Nat.ble (x+y) 9223372036854775807 with
      | true=>some (.v (.int .i64 (.ofNat (x+y))))
      | false=>none
    | _,_,_=>none
  | .sub=>match k,a,b with
    | .i64,.ofNat x,.ofNat y=>match Nat.ble y x && Nat.ble x 9223372036854775807 with
      | true=>some (.v (.int .i64 (.ofNat (x - y))))
      | false=>none
    | _,_,_=>none
  | _=>none
def XlD (T:Tab) (op:BinOp) (t:TypeId) (x y:Operand) (vx vy:Value):Option PV :=
  match Xd8 T.P (do eqGuard op t x y vx vy;binOp op t vx vy:Sem Value) with
  | some r=>vOf r
  | none=>none
def XpH (T:Tab) (op:BinOp) (t:TypeId) (px py:PV):Option PV:=match T.ti t with
  | none=>none
  | some i=>match i.desc with
    | .slice _=>match Xhe px,Xhe py with
      | some a,some true=>match op with
        | .eql=>vb a
        | .neq=>vb (!a)
        | _=>none
      | _,_=>none
    | _=>none
def Xpw (T:Tab) (op:BinOp) (t:TypeId) (px py:PV):Option PV:=match px,py with
  | .ptr i a,.ptr j b=>match T.ti t with
    | some k=>match k.desc,Nat.beq i j && Nat.beq a b with
      | .pointer u,true=>match T.ti u,op with
        | some _,.neq=>vb false
        | _,_=>none
      | _,_=>none
    | none=>none
  | .ptr _ _,.v (.pointer none)=>match T.ti t with
    | some k=>match k.desc,op with
      | .pointer _,.eql=>vb false
      | .pointer _,.neq=>vb true
      | _,_=>none
    | none=>none
  | _,_=>XpH T op t px py
def XiT (T:Tab) (op:BinOp) (t:TypeId) (x y:Operand) (px py:PV):Option PV :=
  match toV px,toV py with
  | some vx,some vy=>XlD T op t x y vx vy
  | _,_=>Xpw T op t px py
def XAD (T:Tab) (op:BinOp) (t:TypeId) (x y:Operand) (px py:PV):Option PV :=
  match px,py with
  | .v (.int k a),.v (.int j b)=>match Nat.beq (ikN k) (ikN j) with
    | true=>match Xwq op k a b with
      | some p=>some p
      | none=>XiT T op t x y px py
    | false=>none
  | _,_=>XiT T op t x y px py
def Xd4 (z:List Value) (n:Nat):List PV:=(List.range (n * z.length)).map fun j=>.v (z.getD (j % z.length) undef)
def Xtf (s:St) (cs:List PV) (e:TypeId):Option St:=match cs.all XV with
  | true=>some { s with H:=s.H.push (some ⟨cs,e,true⟩) }
  | false=>none
def XrI (H:HP Blk) (p:PV) (k:Nat):Option (List PV) :=
  match p with
  | .ptr id off=>match H.get id with
    | some B=>Xai k (B.cells.drop off)
    | none=>none
  | .ept cells off=>Xai k (cells.drop off)
  | _=>none
def Xr1 (d:TypeDesc) (size:Nat) (H:HP Blk) (p:PV):Option PV :=
  match Xdl d with
  | true=>match XrI H p size with
    | some cs=>some (.agg cs)
    | none=>none
  | false=>match XrI H p 1 with
    | some [c]=>some c
    | _=>none
def XgT (H:HP Blk) (p:PV) (cs:List PV):Option (HP Blk) :=
  match p with
  | .ptr id off=>match H.get id with
    | some B=>match B.own && Nat.ble (off+cs.length) B.cells.length with
      | true=>some (H.set id (some { B with cells:=X6 B.cells off cs }))
      | false=>none
    | none=>none
  | _=>none
def Xau (H:HP Blk) (sz:Nat) (id off len sz':Nat):Option (Nat × List PV):=match Nat.beq sz' sz with
  | true=>match H.get id with
    | some B=>match Xai (len * sz) (B.cells.drop off) with
      | some cs=>some (len,cs)
      | none=>none
    | none=>none
  | false=>none
def Xue (H:HP Blk) (sz:Nat) (p:PV):Option (Nat × List PV) :=
  match p with
  | .sl id off len sz'=>Xau H sz id off len sz'
  | .sx id off len sz'=>Xau H sz id off len sz'
  | .tr cells len sz'=>match Nat.beq sz' sz with
    | true=>some (len,cells)
    | false=>none
  | .v (.slice none 0 _)=>some (0,[])
  | _=>none
def XAY (H:HP Blk) (e:TypeId) (sz:Nat) (p:PV) (k:Nat) (xs:List PV):Option (PV × HP Blk) :=
  match p with
  | .v (.slice none 0 0)=>some (.sl H.n 0 k sz,H.push (some ⟨xs,e,true⟩))
  | .sl id 0 len sz'=>match Nat.beq sz' sz with
    | true=>match H.get id with
      | some B=>match B.own && Nat.beq B.elem e && Nat.beq B.cells.length (len * sz) with
        | true=>some (.sl H.n 0 (len+k) sz,(H.set id none).push (some ⟨B.cells++xs,e,true⟩))
        | false=>none
      | none=>none
    | false=>none
  | _=>none
def Xj2 (s:St) (sz:Nat):PV→St
  | .sl id 0 len _=>match s.H.get id with
    | some B=>match Nat.blt (len * sz) B.cells.length with
      | true=>{ s with H:=s.H.set id (some { B with cells:=B.cells.take (len * sz) }) }
      | false=>s
    | none=>s
  | _=>s
def Xw6:PV→Bool
  | .v (.slice none 0 0)=>true
  | .sl _ _ _ _=>true
  | .sx _ _ _ _=>true
  | _=>false
def XcU (sz:Nat) (p:PV) (l h:Nat):Option PV :=
  match p with
  | .v (.slice none 0 0)=>some (.v (.slice none 0 0))
  | .sl id off _ sz'=>match Nat.beq sz' sz with
    | true=>some (.sl id (off+l * sz) (h - l) sz)
    | false=>none
  | .sx id off _ sz'=>match Nat.beq sz' sz with
    | true=>some (.sl id (off+l * sz) (h - l) sz)
    | false=>none
  | _=>none
def Xyv (sz:Nat):PV→Option (Nat × Nat × Nat)
  | .sl id off len sz'=>match Nat.beq sz' sz with | true=>some (id,off,len) | false=>none
  | .sx id off len sz'=>match Nat.beq sz' sz with | true=>some (id,off,len) | false=>none
  | _=>none
def Xhv (T:Tab) (t:TypeId) (p q:PV) (s:St):Option (PV × St) :=
  match XbS T t,XlU q,p with
  | some (e,i),some (k+1),.v (.slice none 0 0)=>match Xgo i.zero && Nat.beq i.zero.length i.size && Nat.ble 1 i.size && Nat.ble (k+1) 1048576 && Nat.ble ((k+1) * i.bytes) 16777216 with
    | true=>match Xtf s (Xd4 i.zero (k+1)) e with
      | some s'=>some (.sl s.H.n 0 (k+1) i.size,s')
      | none=>none
    | false=>none
  | _,_,_=>none
def XkI (s:St) (e:TypeId) (sz:Nat) (p:PV) (k:Nat) (xs:List PV):Option (PV × St) :=
  match p with
  | .sx _ _ _ _=>match Xue s.H sz p with
    | none=>none
    | some (n,old)=>match Xtf s (old++xs) e with
      | none=>none
      | some s'=>some (.sl s.H.n 0 (n+k) sz,s')
  | _=>match XAY s.H e sz p k xs with
    | some (r,H')=>some (r,{ s with H:=H' })
    | none=>none
def XkJ (e:TypeId) (i:TI) (p q:PV) (s:St):Option (PV × St):=match Xue s.H i.size q with
  | none=>none
  | some (k,xs)=>match k with
    | 0=>match Xw6 p with
      | true=>some (p,s)
      | false=>none
    | _+1=>match Xb3 p with
      | none=>none
      | some len=>match xs.all XV && Nat.beq i.zero.length i.size && Nat.ble ((len+k) * i.bytes) 140737488355328 && Nat.ble (len+k) 9223372036854775807 with
        | false=>none
        | true=>XkI s e i.size p k xs
def Xjo (T:Tab) (t:TypeId) (p q:PV) (s:St):Option (PV × St) :=
  match XbS T t with
  | none=>none
  | some (e,i)=>XkJ e i p q (Xj2 s i.size p)
def Xji (k:Value) (kind:TypeDesc):List (Value × Value × Nat)→Nat→Option (Option Nat)
  | [],_=>some none
  | e::es,i=>match Instr.sameNow kind k e.1 with
    | some true=>some (some i)
    | some false=>Xji k kind es (i+1)
    | none=>none
def XpD (kind:TypeDesc) (k:Value):Bool:=match kind,k with
  | .int _,.int _ _=>true
  | .string,.string _=>true
  | .bool,.bool _=>true
  | _,_=>false
def XlM (T:Tab) (t:TypeId):Option (TypeDesc × TI):=match T.ti t with
  | some i=>match i.desc with
    | .map k e=>match T.ti k,T.ti e with
      | some a,some b=>some (a.desc,b)
      | _,_=>none
    | _=>none
  | none=>none
def XfO:Value→Value→Bool
  | .bool a,.bool b=>a == b
  | .int j a,.int k b=>j == k && a == b
  | .string a,.string b=>a == b
  | _,_=>false
def Xns (T:Tab) (t:TypeId) (m k v:PV) (s:St):Option St :=
  match XlM T t,m,k,v with
  | some (kind,_),.mp id,.v kv,.v vv=>match XpD kind kv && Xe3 vv with
    | false=>none
    | true=>match s.X[id]? with
      | some (.map es clock)=>match Xji kv kind es 0 with
        | none=>none
        | some none=>some { s with X:=s.X.set id (.map (es++[(kv,vv,clock)]) (clock+1)) }
        | some (some i)=>match es[i]? with
          | some e=>match XfO e.1 kv with
            | true=>some { s with X:=s.X.set id (.map (es.set i (kv,vv,e.2.2)) clock) }
            | false=>none
          | none=>none
      | _=>none
  | _,_,_,_=>none
def Xjl (T:Tab) (t:TypeId) (m k:PV) (s:St):Option St :=
  match XlM T t,m,k with
  | some (kind,_),.mp id,.v kv=>match XpD kind kv with
    | false=>none
    | true=>match s.X[id]? with
      | some (.map es clock)=>match Xji kv kind es 0 with
        | none=>none
        | some none=>some { s with X:=s.X.set id (.map es clock) }
        | some (some i)=>some { s with X:=s.X.set id (.map (es.eraseIdx i) clock) }
      | _=>none
  | _,_,_=>none
def XAB (kv:Value) (kind:TypeDesc) (z:Option Value) (es:List (Value × Value × Nat)):Option (PV × Bool):=match XpD kind kv with
  | false=>none
  | true=>match Xji kv kind es 0 with
    | none=>none
    | some none=>match z with
      | some z=>match vOf z with
        | some p=>some (p,false)
        | none=>none
      | none=>none
    | some (some i)=>match es[i]? with
      | some e=>match vOf e.2.1 with
        | some p=>some (p,true)
        | none=>none
      | none=>none
def Xjj (T:Tab) (t:TypeId) (ok:Bool) (s:St):Option PV→Option PV→Option PV
  | some m,some (.v kv)=>match XlM T t,(match m with | .mp id=>(match s.X[id]? with | some (.map es _)=>some es | _=>none) | .v (.map none)=>some [] | _=>none) with
    | some (kind,i),some es=>match XAB kv kind i.sc es with
      | some (p,b)=>match ok with
        | true=>some (.tup [p,.v (.bool b)])
        | false=>some p
      | none=>none
    | _,_=>none
  | _,_=>none
def Xtq (p:PV) (s:St):Option (PV × St) :=
  match p with
  | .it id=>match s.X[id]? with
    | some (.mit none _ _ _)=>some (.tup [.v (.bool false)],s)
    | some (.mit (some mp) _ _ _)=>match s.X[mp]? with
      | some (.map es _)=>match es with
        | []=>some (.tup [.v (.bool false)],s)
        | _=>none
      | _=>none
    | _=>none
  | _=>none
def Xl6 (T:Tab) (t:TypeId) (x:PV) (s:St):Option (PV × St) :=
  match XbS T t with
  | none=>none
  | some (_,i)=>match Xyv i.size x with
    | none=>none
    | some (id,off,n)=>match n with
      | 0=>some (.tup [],s)
      | _+1=>match Xgo i.zero && Nat.beq i.zero.length i.size with
        | true=>match XgT s.H (.ptr id off) (Xd4 i.zero n) with
          | some H'=>some (.tup [],{ s with H:=H' })
          | none=>none
        | false=>none
def capV:PV→Option Nat
  | .v (.slice none 0 0)=>some 0
  | .sx _ _ n _=>some n
  | _=>none
def Xw8 (s:St):Option Nat→Option (PV × St)
  | some n=>some (.v (.int .i64 (.ofNat n)),s)
  | none=>none
def XgG (T:Tab) (t:TypeId):Bool:=match XbS T t with
  | some _=>true
  | none=>false
def Xwp (T:Tab) (t:TypeId) (x:PV):Option Nat:=match x with
  | .v (.string b)=>match T.ti t with
    | some i=>match i.desc with
      | .string=>some b.size
      | _=>none
    | none=>none
  | _=>match XgG T t with
    | true=>Xb3 x
    | false=>none
def Xwr (T:Tab) (t:TypeId) (x:PV):Option Nat:=match XgG T t with
  | true=>capV x
  | false=>none
def Xs6 (b:ByteArray):List PV:=b.data.toList.map fun x=>.v (.int .u8 (.ofNat x.toNat))
def Xhw (T:Tab) (t:TypeId) (p q:PV) (s:St):Option (PV × St) :=
  match XbS T t,q with
  | some (e,i),.v (.string b)=>match Xb3 p with
    | none=>none
    | some len=>match Nat.ble 1 b.size && Nat.beq i.zero.length i.size && Nat.beq i.size 1 && Nat.ble ((len+b.size) * i.bytes) 140737488355328 && Nat.ble (len+b.size) 9223372036854775807 with
      | false=>none
      | true=>match XAY s.H e i.size p b.size (Xs6 b) with
        | some (r,H')=>some (r,{ s with H:=H' })
        | none=>none
  | _,_=>none
def XkH (T:Tab) (t u:TypeId) (x y:PV) (s:St):Option (PV × St):=match Nat.beq u t with
  | true=>Xjo T t x y s
  | false=>match T.ti u with
    | some j=>match j.desc with
      | .int _=>Xhv T t x y s
      | .string=>Xhw T t x y s
      | _=>none
    | none=>none
def XhW (m:Bool):List PV→Option PV
  | [.v (.int k a),.v (.int j b)]=>match Nat.beq (ikN k) (ikN j),XhV b a with
    | true,true=>some (.v (.int k (cond m b a)))
    | true,false=>some (.v (.int k (cond m a b)))
    | false,_=>none
  | _=>none
def Xk8:List PV→Option (List UInt8)
  | []=>some []
  | .v (.int .u8 (.ofNat x))::r=>match Nat.blt x 256,Xk8 r with
    | true,some l=>some (UInt8.ofNat x::l)
    | _,_=>none
  | _=>none
def XbF:List PV→Option PV
  | [.sl id off (_+1) _]=>some (.ptr id off)
  | [.sx id off (_+1) _]=>some (.ptr id off)
  | _=>none
def XkE (T:Tab) (s:St) (ps:List PV) (ts:List TypeId):Option (PV × St):=match ps,ts with
  | [.ptr id 0,.v (.int .i64 (.ofNat n))],[pt,_]=>match T.ti pt,s.H.get id with
    | some i,some B=>match i.desc with
      | .pointer e=>match T.ti e,Xk8 B.cells with
        | some j,some l=>match B.own && Nat.beq B.elem e && Nat.beq j.size 1 && Nat.beq n l.length && Nat.ble 1 n && Nat.ble n 9223372036854775807 with
          | true=>some (.v (.string ⟨l.toArray⟩),{ s with H:=s.H.set id none })
          | false=>none
        | _,_=>none
      | _=>none
    | _,_=>none
  | _,_=>none
def X1 (T:Tab) (b:Builtin) (args:List PV) (ts:List TypeId) (s:St):Option (PV × St) :=
  match b with
  | .len=>match args,ts with
    | [x],[t]=>Xw8 s (Xwp T t x)
    | _,_=>none
  | .cap=>match args,ts with
    | [x],[t]=>Xw8 s (Xwr T t x)
    | _,_=>none
  | .append=>match args,ts with
    | [x,y],[t,u]=>XkH T t u x y s
    | _,_=>none
  | .clear=>match args,ts with
    | [x],[t]=>Xl6 T t x s
    | _,_=>none
  | .delete=>match args,ts with
    | [m,k],[t,_]=>match Xjl T t m k s with
      | some s'=>some (.tup [],s')
      | none=>none
    | _,_=>none
  | .min=>match XhW true args with
    | some p=>some (p,s)
    | none=>none
  | .max=>match XhW false args with
    | some p=>some (p,s)
    | none=>none
  | .unsafeSliceData=>match ts with
    | [_]=>match XbF args with
      | some p=>some (p,s)
      | none=>none
    | _=>none
  | .unsafeString=>XkE T s args ts
  | _=>none
def Xeg (E:Env):Option Operand→Option (Option Nat)
  | none=>some none
  | some x=>match E.ev x with
    | some p=>match XlU p with
      | some k=>some (some k)
      | none=>none
    | none=>none
def same (s:St):Option PV→Option (PV × St)
  | some p=>some (p,s)
  | none=>none
def Xnt (E:Env) (c a b:Operand):Option PV:=match E.ev c with
  | some (.v (.bool t))=>match t with
    | true=>E.ev a
    | false=>E.ev b
  | _=>none
def Xl7 (T:Tab) (t:TypeId) (s:St):Option (PV × St):=match T.ti t with
  | some i=>match Xgo i.zero with
    | true=>some (.ptr s.H.n 0,{ s with H:=s.H.push (some ⟨i.zero.map PV.v,t,true⟩) })
    | false=>none
  | none=>none
def Xws (t:TypeId) (s:St):Option PV→Option (PV × St)
  | some p=>match Xtf s (cellsOf p) t with
    | some s'=>some (.ptr s.H.n 0,s')
    | none=>none
  | none=>none
def Xjm (T:Tab) (t:TypeId):Option (List (Nat × PV))→Option PV
  | some ps=>match T.ti t with
    | some i=>match i.desc,Xgo i.zero,Xcl (fun (j:Nat)=>i.places[j]?) (i.zero.map PV.v) ps with
      | .struct _,true,some cs=>some (.agg cs)
      | _,_,_=>none
    | none=>none
  | none=>none
def Xwo (T:Tab) (t:TypeId) (n:Nat) (s:St):Option (List (Nat × PV))→Option (PV × St)
  | some ps=>match XbS T t with
    | some (e,i)=>match Xgo i.zero && Nat.beq i.zero.length i.size && Nat.ble 1 i.size && Nat.ble (n * i.size) 16777216 with
      | true=>match Xcl (fun j=>some (j * i.size,i.size)) ((List.range (n * i.size)).map fun j=>.v (i.zero.getD (j % i.zero.length) undef)) ps with
        | some cs=>match Xtf s cs e with
          | some s'=>some (.sx s.H.n 0 n i.size,s')
          | none=>none
        | none=>none
      | false=>none
    | none=>none
  | none=>none
def Xql (T:Tab) (t:TypeId) (s:St):Option PV→Option PV
  | some p=>match T.ti t with
    | some i=>Xr1 i.desc i.size s.H p
    | none=>none
  | none=>none
def Xep (T:Tab) (t:TypeId) (s:St):Option PV→Option PV→Option (PV × St)
  | some p,some q=>match T.ti t with
    | some i=>match Nat.beq (cellsOf q).length i.size && (cellsOf q).all XV with
      | true=>match XgT s.H p (cellsOf q) with
        | some H'=>some (.v undef,{ s with H:=H' })
        | none=>none
      | false=>none
    | none=>none
  | _,_=>none
def Xf4:Option PV→Option PV
  | some (.ptr id off)=>some (.ptr id off)
  | some (.ept c off)=>some (.ept c off)
  | some (.fn (.func g) c)=>some (.fn (.func g) c)
  | some (.yld l)=>some (.yld l)
  | _=>none
def Xnw (T:Tab) (op:BinOp) (t:TypeId) (x y:Operand):Option PV→Option PV→Option PV
  | some px,some py=>XAD T op t x y px py
  | _,_=>none
def XAW (T:Tab) (op:UnOp):Option PV→Option PV
  | some (.v (.bool b))=>match op with
    | .not=>vb (!b)
    | _=>none
  | some (.v v)=>match Xd8 T.P (Op.unary op v) with
    | some r=>vOf r
    | none=>none
  | _=>none
def Xqp (T:Tab) (a b:TypeId):Option PV→Option PV
  | some (.v v)=>match Xd8 T.P (convert a b v) with
    | some r=>vOf r
    | none=>none
  | _=>none
def Xqo (T:Tab) (a b:TypeId) (H:HP Blk) (id off:Nat):Option PV:=match T.ti a,T.ti b,H.get id with
  | some i,some j,some B=>match i.desc,j.desc with
    | .pointer t,.unsafePointer=>match T.ti t with
      | some k=>match Nat.ble 1 k.size && Nat.ble (off+1) B.cells.length with
        | true=>some (.ptr id off)
        | false=>none
      | none=>none
    | .unsafePointer,.pointer u=>match T.ti u,T.ti B.elem with
      | some _,some k=>match Nat.ble k.size B.cells.length && Nat.ble (off+1) k.size && rowAt T.P (sameLayout T.P T.P.depth · u) T.P.depth B.elem 1 off 1 with
        | true=>some (.ptr id off)
        | false=>none
      | _,_=>none
    | _,_=>none
  | _,_,_=>none
def Xl5 (T:Tab) (a b:TypeId) (s:St):Option PV→Option PV
  | some (.ptr id off)=>Xqo T a b s.H id off
  | q=>Xqp T a b q
def Xnu (f:Fn) (first:Array Operand):Option (List PV)→Option PV
  | some ps=>match first.isEmpty with
    | true=>some (.fn f ps)
    | false=>none
  | none=>none
def Xis (T:Tab) (t:TypeId) (b:ByteArray) (l h:Nat):Option PV:=match Nat.ble l h && Nat.ble h b.size with
  | true=>match T.ti t with
    | some i=>match i.desc with
      | .string=>some (.v (.string (b.extract l h)))
      | _=>none
    | none=>none
  | false=>none
def Xit (T:Tab) (t:TypeId) (p:PV) (l h n:Nat):Option PV:=match Nat.ble l h && Nat.ble h n with
  | true=>match XbS T t with
    | some (_,i)=>XcU i.size p l h
    | none=>none
  | false=>none
def Xfx (T:Tab) (t:TypeId) (p:Option PV) (l h:Option (Option Nat)) (mx:Option Operand):Option PV :=
  match p,l,h,mx with
  | some (.v (.string b)),some l,some h,none=>Xis T t b (l.getD 0) (h.getD b.size)
  | some p,some l,some h,none=>match Xb3 p with
    | some n=>Xit T t p (l.getD 0) (h.getD n) n
    | none=>none
  | _,_,_,_=>none
def Xjk (T:Tab) (t:TypeId) (k:Nat):Option PV→Option PV
  | some p=>match T.ti t with
    | some i=>match i.desc,i.places[k]? with
      | .struct _,some (off,_+1)=>Xdf p off
      | _,_=>none
    | none=>none
  | none=>none
def Xnv (T:Tab) (t:TypeId):Option PV→Option PV→Option PV
  | some p,some q=>match XbS T t with
    | some (_,i)=>match XlU q,Xb3 p with
      | some k,some n=>match Nat.blt k n with
        | true=>Xcj p i.size k
        | false=>none
      | _,_=>none
    | none=>none
  | _,_=>none
def Xqm (T:Tab) (t:TypeId):Option PV→Option PV→Option PV
  | some (.v (.string b)),some q=>match XlU q,T.ti t with
    | some k,some i=>match i.desc,b[k]? with
      | .string,some c=>some (.v (.int .u8 c.toNat))
      | _,_=>none
    | _,_=>none
  | _,_=>none
def Xhq (T:Tab) (t:TypeId) (s:St):Option PV→Option PV→Option PV→Option (PV × St)
  | some m,some k,some v=>match Xns T t m k v s with
    | some s'=>some (.v undef,s')
    | none=>none
  | _,_,_=>none
def Xht (T:Tab) (t:TypeId) (s:St):Option PV→Option (PV × St)
  | some (.mp id)=>match T.ti t with
    | some i=>match i.desc,s.X[id]? with
      | .map _ _,some (.map _ clock)=>some (.it s.X.length,{ s with X:=s.X++[.mit (some id) clock #[] clock] })
      | _,_=>none
    | none=>none
  | some (.v (.map none))=>match T.ti t with
    | some i=>match i.desc with
      | .map _ _=>some (.it s.X.length,{ s with X:=s.X++[.mit none 0 #[] 0] })
      | _=>none
    | none=>none
  | _=>none
def Xl4 (s:St):Option PV→Option (PV × St)
  | some p=>Xtq p s
  | none=>none
def Xhu (k:Nat):Option PV→Option PV
  | some (.tup ps)=>ps[k]?
  | _=>none
def Xbs (T:Tab) (b:Builtin) (ts:List TypeId) (s:St):Option (List PV)→Option (PV × St)
  | some ps=>X1 T b ps ts s
  | none=>none
def evO (T:Tab) (o:Oper) (E:Env) (s:St):Option (PV × St) :=
  match o.op with
  | .move x=>same s (E.ev x)
  | .assign x=>same s (E.ev x)
  | .pick c a b=>same s (Xnt E c a b)
  | .alloc t=>Xl7 T t s
  | .box t x=>Xws t s (E.ev x)
  | .build t parts=>same s (Xjm T t (evp E parts.toList))
  | .buildSlice t n parts=>Xwo T t n s (evp E parts.toList)
  | .load t x=>same s (Xql T t s (E.ev x))
  | .store t x y=>Xep T t s (E.ev x) (E.ev y)
  | .nilCheck x=>same s (Xf4 (E.ev x))
  | .binOp op t x y _=>same s (Xnw T op t x y (E.ev x) (E.ev y))
  | .unOp op _ x=>same s (XAW T op (E.ev x))
  | .convert a b x=>same s (Xl5 T a b s (E.ev x))
  | .makeFunc f first caps=>same s (Xnu f first (evs E caps.toList))
  | .makeMap _ none=>some (.mp s.X.length,{ s with X:=s.X++[.map [] 0] })
  | .slice t x lo hi mx=>same s (Xfx T t (E.ev x) (Xeg E lo) (Xeg E hi) mx)
  | .fieldAddr t x k=>same s (Xjk T t k (E.ev x))
  | .indexAddr t x y=>same s (Xnv T t (E.ev x) (E.ev y))
  | .index t x y=>same s (Xqm T t (E.ev x) (E.ev y))
  | .lookup t x y ok=>same s (Xjj T t ok s (E.ev x) (E.ev y))
  | .mapUpdate t x y z=>Xhq T t s (E.ev x) (E.ev y) (E.ev z)
  | .range t x=>Xht T t s (E.ev x)
  | .next x false=>Xl4 s (E.ev x)
  | .extract x k=>same s (Xhu k (E.ev x))
  | .call { callee:=.builtin b,args,argTypes }=>Xbs T b argTypes.toList s (evs E args.toList)
  | _=>none
abbrev XdU:=FuncId→List PV→St→Option (PV × St)
abbrev Xlo:=Nat→List PV→St→Option (PV × St)
def Xtr (call:XdU) (rnd:Xlo) (s:St):Option PV→Option (List PV)→Option (PV × St)
  | some (.fn (.func g) cap),some ps=>call g (ps++cap) s
  | some (.yld l),some ps=>rnd l ps s
  | _,_=>none
def XeI (o:Oper):Option (Operand × List Operand):=match o.op with
  | .call { callee:=.value x,args,.. }=>some (x,args.toList)
  | _=>none
def XAC (T:Tab):Option PV→Option (List PV)→Option PV
  | some (.fn (.func g) []),some [p]=>match T.ext g with
    | true=>some p
    | false=>none
  | _,_=>none
def Xln (T:Tab) (call:XdU) (rnd:Xlo) (o:Oper) (E:Env) (s:St):Option (PV × St) :=
  match XeI o with
  | some (x,args)=>match XAC T (E.ev x) (evs E args) with
    | some p=>some (p,s)
    | none=>Xtr call rnd s (E.ev x) (evs E args)
  | none=>evO T o E s
def Xtd (n:Nat) (E:Env) (o:Oper) (p:PV):Option Env:=match o.dst with
  | none=>some E
  | some d=>match Nat.blt d n with
    | true=>some (E.put d p)
    | false=>none
def XkA (all_:List Oper) (E:Env):Option (Nat × Bool)→Option Bool
  | none=>some true
  | some (j,want)=>match all_[j]? with
    | none=>none
    | some oj=>match oj.dst with
      | none=>none
      | some dj=>match E.get dj with
        | some (.v (.bool b))=>match b with
          | true=>some want
          | false=>some (!want)
        | some (.v (.tuple _))=>some false
        | _=>none
def Xtw (n:Nat) (E:Env) (o:Oper):Option (PV × St)→Option (Env × St)
  | some (p,s)=>match Xtd n E o p with
    | some E'=>some (E',s)
    | none=>none
  | none=>none
def Xyl (n:Nat) (E:Env) (o:Oper) (s:St):Option (Env × St):=match o.dst with
  | none=>none
  | some d=>match Nat.blt d n with
    | true=>some (E.put d (.v undef),s)
    | false=>none
def Xwn (T:Tab) (call:XdU) (rnd:Xlo) (n:Nat) (o:Oper) (E:Env) (s:St):Option Bool→Option (Env × St)
  | some true=>Xtw n E o (Xln T call rnd o E s)
  | some false=>Xyl n E o s
  | none=>none
def XkG (T:Tab) (call:XdU) (rnd:Xlo) (n:Nat) (all_:List Oper):List Oper→Env→St→Option (Env × St)
  | [],E,s=>some (E,s)
  | o::r,E,s=>match Xwn T call rnd n o E s (XkA all_ E o.guard) with
    | some (E',s')=>XkG T call rnd n all_ r E' s'
    | none=>none
inductive Ex where
  | normal
  | exit (id:Nat)
  | ret
  deriving Inhabited
structure Cx where
  n:Nat
  rd:Option Nat
  f:FuncId
abbrev Res:=Ex × Env × List Nat × St
def XcK (n:Nat):List Tmp→List PV→Env→Option Env
  | [],[],E=>some E
  | t::ts,p::ps,E=>match Nat.blt t n with
    | true=>XcK n ts ps (E.put t p)
    | false=>none
  | _,_,_=>none
def Xnj:Ex→Option Code
  | .normal=>none
  | .exit id=>some (.exit id)
  | .ret=>some .ret
def Xhs (code:Cx→Code→Env→List Nat→St→Option Res) (l:Nat) (args:List PV) (s:St):Option (PV × St) :=
  match s.X[l]? with
  | some (.loop .ready none f E n params assign body d)=>match XcK n params.toList args E with
    | none=>none
    | some E1=>match code ⟨n,some l,f⟩ assign E1 [] s with
      | some (.normal,E2,[],s1)=>match s1.X[l]? with
        | some (.loop .ready none f' E' n' params' assign' body' d') =>
          match code ⟨n,some l,f⟩ body E2 [] { s1 with X:=s1.X.set l (.loop .busy none f' E' n' params' assign' body' d') } with
          | some (e,_,[],s2)=>match s2.X[l]? with
            | some (.loop .busy none f' E' n' params' assign' body' d')=>match Xnj e with
              | none=>some (.v (.bool true),{ s2 with X:=s2.X.set l (.loop .ready none f' E' n' params' assign' body' d') })
              | some c=>some (.v (.bool false),{ s2 with X:=s2.X.set l (.loop .done (some c) f' E' n' params' assign' body' d') })
            | _=>none
          | _=>none
        | _=>none
      | _=>none
  | _=>none
def Xl3 (call:XdU) (code:Cx→Code→Env→List Nat→St→Option Res) (cx:Cx) (g:Operand) (params:Array Tmp) (assign body:Code) (E:Env) (D:List Nat) (s:St):Option Res :=
  match E.ev g with
  | some (.fn (.func gf) cap) =>
    let ent:Option (Nat × List Nat × St):=match cx.rd with
      | none=>some (s.X.length,s.X.length::D,{ s with X:=s.X++[.dfr true] })
      | some l=>match s.X[l]? with
        | some (.loop _ _ _ _ _ _ _ _ d)=>some (d,D,s)
        | _=>none
    match ent with
    | none=>none
    | some (d,D',s1) =>
      let l:=s1.X.length
      match call gf (.yld l::cap) { s1 with X:=s1.X++[.loop .ready none cx.f E cx.n params assign body d] } with
      | none=>none
      | some (_,s2)=>match s2.X[l]? with
        | some (.loop st pend f' E' n' params' assign' body' d')=>match decide (st=.busy) with
          | true=>none
          | false =>
            let s3:St:={ s2 with X:=s2.X.set l (.loop .exhausted pend f' E' n' params' assign' body' d') }
            match pend with
            | none=>some (.normal,E,D',s3)
            | some c=>code cx c E D' s3
        | _=>none
  | _=>none
end Go.Ev
namespace Go.Ev
open Go.RowKit
def Xbg (o:Oper):List Nat:=o.op.operands.toList.filterMap fun | .tmp t=>some t | _=>none
def XY (o:Oper) (E:Env):Env:=E.only (Xbg o)
def Xfs (acc:List Nat) (o:Oper):Nat:=o.after.toList.foldl (fun s e=>if Region.binds .any e then s ||| 2 ^ e.on ||| acc.getD e.on 0 else s) 0
def bef:List Oper→List Nat→List Nat
  | [],acc=>acc
  | o::r,acc=>bef r (acc++[Xfs acc o])
def Xa3 (bs:List Nat) (j i:Nat):Bool:=(bs.getD i 0).testBit j
def Xsp (l:List Oper):Bool:=l.zipIdx.all fun (o,i)=>o.after.toList.all fun e=>!Region.binds .any e || Nat.blt e.on i
def Xs (o:Oper):Bool :=
  match o.op with
  | .store .. | .alloc _ | .box .. | .buildSlice .. | .makeMap .. | .makeSlice .. | .mapUpdate .. | .range .. | .next ..=>true
  | .call { callee:=.builtin b,.. }=>match b with | .len | .cap | .min | .max | .unsafeSliceData=>false | _=>true
  | .call _=>true
  | _=>false
def Xdh (o:Oper):Bool :=
  match o.op with
  | .load ..=>true
  | .convert ..=>true
  | .lookup ..=>true
  | _=>false
def XuK (o:Oper):Bool:=o.guard.isNone && o.dst.isSome &&
  match o.op with
  | .alloc _=>true
  | .box ..=>true
  | .buildSlice ..=>true
  | _=>false
def Xqi (l:List Oper):List Bool :=
  l.zipIdx.map fun (o,i)=>XuK o && l.zipIdx.any fun (o',j)=>Xs o' && !Nat.beq i j && !Xa3 (bef l []) i j && !Xa3 (bef l []) j i
def XaQ (l:List Oper) (i:Nat):Bool:=(Xqi l).getD i false
def Xay (l:List Oper) (i:Nat) (o:Oper):Bool:=Xs o && !XaQ l i
def Xc5 (T:Tab) (o:Oper) (E:Env):Option Blk :=
  match o.op with
  | .alloc t=>match T.ti t with
    | some i=>match Xgo i.zero with
      | true=>some ⟨i.zero.map PV.v,t,true⟩
      | false=>none
    | none=>none
  | .box t x=>match E.ev x with
    | some p=>match (cellsOf p).all XV with
      | true=>some ⟨cellsOf p,t,true⟩
      | false=>none
    | none=>none
  | .buildSlice t n parts=>match XbS T t,evp E parts.toList with
    | some (e,i),some ps=>match Xgo i.zero && Nat.beq i.zero.length i.size && Nat.ble 1 i.size && Nat.ble (n * i.size) 16777216 with
      | true=>match Xcl (fun j=>some (j * i.size,i.size)) ((List.range (n * i.size)).map fun j=>.v (i.zero.getD (j % i.zero.length) undef)) ps with
        | some cs=>match cs.all XV with
          | true=>some ⟨cs,e,true⟩
          | false=>none
        | none=>none
      | false=>none
    | _,_=>none
  | _=>none
def Xc4 (T:Tab) (o:Oper) (id:Nat):Option PV :=
  match o.op with
  | .alloc _=>some (.ptr id 0)
  | .box _ _=>some (.ptr id 0)
  | .buildSlice t n _=>match XbS T t with
    | some (_,i)=>some (.sx id 0 n i.size)
    | none=>none
  | _=>none
def Xfv (T:Tab) (l:List Oper) (s:St):Nat→Env→List Oper→Option (List Blk)
  | _,_,[]=>some []
  | i,E,o::r=>match XaQ l i with
    | true=>match Xc5 T o E,Xfv T l s (i+1) E r with
      | some b,some bs=>some (b::bs)
      | _,_=>none
    | false=>match Xs o,o.guard,o.dst with
      | false,none,some d=>match evO T o E s with
        | some (p,_)=>Xfv T l s (i+1) (E.put d p) r
        | none=>Xfv T l s (i+1) E r
      | _,_,_=>Xfv T l s (i+1) E r
def swB:Option (Nat × Nat)→Nat→Nat→Bool
  | some (a,b),i,j=>Nat.beq a i && Nat.beq b j || Nat.beq a j && Nat.beq b i
  | none,_,_=>false
def Xf6 (l:List Oper) (sw:Option (Nat × Nat)):Bool :=
  let bs:=bef l []
  Xsp l &&
  (l.zipIdx.all fun (oi,i)=>l.zipIdx.all fun (oj,j)=>Nat.beq i j ||
    ((oi.dst.all fun d=>!(Xbg oj).contains d || (if i < j then Xa3 bs i j else Xa3 bs j i)) &&
     (oi.dst.all fun d=>oj.dst.all fun d'=>!Nat.beq d d') &&
     (!(Xay l i oi && Xay l j oj) || swB sw i j || (if i < j then Xa3 bs i j else Xa3 bs j i)))) &&
  (l.zipIdx.all fun (o,i)=>match o.guard with
    | none=>true
    | some (j,_)=>Xa3 bs j i && Nat.blt j i && !XaQ l i) &&
  (match sw with
    | none=>true
    | some (a,b)=>Nat.blt a b && (l.zipIdx.all fun (o,i)=>Nat.beq i a || Nat.beq i b || !(Xdh o || Xs o) || (Xa3 bs i a && Xa3 bs i b)))
def Xaz (l:List Oper) (i:Nat):Nat:=(l.zipIdx.filter fun (o,j)=>Xay l j o && Xa3 (bef l []) j i).length
def XaO (l:List Oper) (i:Nat):Nat:=(l.zipIdx.filter fun (o,j)=>Xay l j o && !Xa3 (bef l []) i j).length
def XbD (l:List Oper) (vals:List PV) (i:Nat) (o:Oper):Option Bool:=match o.guard with
  | none=>some true
  | some (j,want)=>match Nat.blt j i,vals[j]?,l[j]? with
    | true,some (.v x),some oj=>match oj.dst with
      | none=>none
      | some _=>match x with
        | .bool b=>some (b == want)
        | .tuple _=>some false
        | _=>none
    | _,_,_=>none
structure Dr where
  E:Env
  st:St
  Ss:List St
  vals:List PV
  fk:Nat
def Xju (T:Tab) (call:XdU) (rnd:Xlo) (l:List Oper) (i:Nat) (o:Oper) (d:Dr):Bool→Option (PV × St × List St × Nat)
  | false=>match o.dst with
    | none=>none
    | some _=>match Xay l i o with
      | true=>some (.v undef,d.st,d.Ss++[d.st],d.fk)
      | false=>some (.v undef,d.st,d.Ss,d.fk)
  | true=>match XaQ l i with
    | true=>match Xc4 T o d.fk with
      | some p=>some (p,d.st,d.Ss,d.fk+1)
      | none=>none
    | false=>match Xln T call rnd o (XY o d.E) d.st with
      | none=>none
      | some (p,s')=>match Xay l i o with
        | true=>some (p,s',d.Ss++[s'],d.fk)
        | false=>some (p,d.st,d.Ss,d.fk)
def XqC (n:Nat) (o:Oper) (d:Dr):Option (PV × St × List St × Nat)→Option Dr
  | none=>none
  | some (p,st,Ss,fk)=>match Xtd n d.E o p with
    | none=>none
    | some E'=>some ⟨E',st,Ss,d.vals++[p],fk⟩
def XgI (T:Tab) (call:XdU) (rnd:Xlo) (n:Nat) (l:List Oper) (i:Nat) (o:Oper) (d:Dr):Option Dr :=
  match XbD l d.vals i o with
  | none=>none
  | some w=>XqC n o d (Xju T call rnd l i o d w)
def XhA (T:Tab) (call:XdU) (rnd:Xlo) (n:Nat) (l:List Oper):Nat→List Oper→Dr→Option Dr
  | _,[],d=>some d
  | i,o::r,d=>match XgI T call rnd n l i o d with
    | none=>none
    | some d'=>XhA T call rnd n l (i+1) r d'
def Xuj:Value→Value→Bool
  | .bool a,.bool b=>a == b
  | .int j a,.int k b=>decide (j=k) && decide (a=b)
  | .string a,.string b=>decide (a=b)
  | .pointer none,.pointer none=>true
  | .slice none a b,.slice none c d=>Nat.beq a c && Nat.beq b d
  | .map none,.map none=>true
  | .nilFunc,.nilFunc=>true
  | _,_=>false
def XrJ:PV→PV→Bool
  | .v x,.v y=>Xuj x y
  | .ptr a b,.ptr c d=>Nat.beq a c && Nat.beq b d
  | .sl a b c d,.sl a' b' c' d'=>Nat.beq a a' && Nat.beq b b' && Nat.beq c c' && Nat.beq d d'
  | .sx a b c d,.sx a' b' c' d'=>Nat.beq a a' && Nat.beq b b' && Nat.beq c c' && Nat.beq d d'
  | .yld a,.yld b=>Nat.beq a b
  | .mp a,.mp b=>Nat.beq a b
  | _,_=>false
def Xn4:List PV→List PV→Bool
  | [],[]=>true
  | a::x,b::y=>XrJ a b && Xn4 x y
  | _,_=>false
def XBk:PV→PV→Bool
  | .agg x,.agg y=>Xn4 x y
  | .fn (.func f) x,.fn (.func g) y=>Nat.beq f g && Xn4 x y
  | a,b=>XrJ a b
def XsH (s:St) (id:Nat) (b:Blk):Bool:=match s.H.get id with
  | some c=>c.own && Nat.beq c.elem b.elem && Xn4 c.cells b.cells
  | _=>false
def XqQ (f:St→Bool) (Ss:List St):Nat→Nat→Bool
  | _,0=>true
  | lo,k+1=>match Ss[lo]? with
    | some s=>f s && XqQ f Ss (lo+1) k
    | none=>false
def Xer (T:Tab) (l:List Oper) (Ss:List St) (vals:List PV):Nat→List Oper→List PV→Nat→Env→Bool
  | _,[],_,_,_=>true
  | i,o::r,p::ps,fk,E =>
    (match XbD l vals i o with
      | some true=>match XaQ l i with
        | true=>match Xc5 T o (XY o E) with
          | some b=>XqQ (fun s=>XsH s fk b) Ss (Xaz l i) (XaO l i+1 - Xaz l i)
          | none=>false
        | false=>match Xdh o with
          | true=>XqQ (fun s=>match evO T o (XY o E) s with | some (q,_)=>XBk q p | none=>false) Ss (Xaz l i) (XaO l i+1 - Xaz l i)
          | false=>true
      | _=>true) &&
    Xer T l Ss vals (i+1) r ps (if XaQ l i then fk+1 else fk) (match o.dst with | some d=>E.put d p | none=>E)
  | _,_::_,[],_,_=>false
def XeO (l:List Oper):Option (Nat × Nat) :=
  match ((l.zipIdx.filter fun (o,i)=>Xay l i o).map (·.2)).reverse with
  | b::a::_=>match Xa3 (bef l []) a b with
    | true=>none
    | false=>some (a,b)
  | _=>none
def Xac:List Oper→List PV→Env→Env
  | o::os,p::ps,E=>Xac os ps (match o.dst with | some d=>E.put d p | none=>E)
  | _,_,E=>E
def Xex (o:Oper) (E:Env):Option Nat:=match o.guard with
  | some _=>none
  | none=>match o.op with
    | .store _ x _=>match E.ev x with
      | some (.ptr i _)=>some i
      | _=>none
    | _=>none
def Xs4 (l:List Oper) (vals:List PV) (E:Env):Option (Nat × Nat)→Bool
  | none=>true
  | some (a,b)=>match l[a]?,l[b]? with
    | some oa,some ob=>match Xex oa (XY oa (Xac (l.take a) (vals.take a) E)),Xex ob (XY ob (Xac (l.take b) (vals.take b) E)) with
      | some i,some j=>!Nat.beq i j
      | _,_=>false
    | _,_=>false
def Xqn (T:Tab) (call:XdU) (rnd:Xlo) (n:Nat) (l:List Oper) (E:Env) (s:St):Option (Env × St) :=
  match Xf6 l (XeO l),Xfv T l s 0 E l with
  | true,some bs =>
    let s0:St:={ s with H:=bs.foldl (fun h b=>h.push (some b)) s.H }
    match XhA T call rnd n l 0 l ⟨E,s0,[s0],[],s.H.n⟩ with
    | none=>none
    | some d=>match Xer T l d.Ss d.vals 0 l d.vals s.H.n E && Xs4 l d.vals E (XeO l) with
      | true=>some (d.E,d.st)
      | false=>none
  | _,_=>none
end Go.Ev
namespace Go.Ev
open Go.RowKit
def Xtb (T:Tab) (E:Env) (H:HP Blk):ResultVar→Option PV
  | .tmp t=>E.get t
  | .cell a t=>match T.ti t,E.get a with
    | some i,some q=>Xr1 i.desc i.size H q
    | _,_=>none
def Xeb (T:Tab) (E:Env) (H:HP Blk):List ResultVar→Option (List PV)
  | []=>some []
  | r::rs=>match Xtb T E H r,Xeb T E H rs with
    | some p,some ps=>some (p::ps)
    | _,_=>none
def Xq5:List PV→PV
  | [p]=>p
  | ps=>.tup ps
def XfN:List Nat→St→Option St
  | [],s=>some s
  | d::ds,s=>match s.X[d]? with
    | some (.dfr true)=>XfN ds { s with X:=s.X.set d (.dfr false) }
    | _=>none
structure Ev where
  code:Cx→Code→Env→List Nat→St→Option Res
  call:XdU
def Xjn (id:Nat):Option Res→Option Res
  | some (.exit i,E,D,s)=>match Nat.beq i id with
    | true=>some (.normal,E,D,s)
    | false=>some (.exit i,E,D,s)
  | r=>r
def XdQ (T:Tab) (I:Ev) (cx:Cx) (c:Code) (E:Env) (D:List Nat) (s:St):Option Res :=
  match c with
  | .skip=>some (.normal,E,D,s)
  | .region _ ops false=>match XkG T I.call (Xhs I.code) cx.n ops.toList ops.toList E s with
    | some (E',s')=>some (.normal,E',D,s')
    | none=>none
  | .region _ ops true=>match Xqn T I.call (Xhs I.code) cx.n ops.toList E s with
    | some (E',s')=>some (.normal,E',D,s')
    | none=>none
  | .seq a b=>match I.code cx a E D s with
    | some (.normal,E',D',s')=>I.code cx b E' D' s'
    | r=>r
  | .cond x a b=>match E.ev x with
    | some (.v (.bool true))=>I.code cx a E D s
    | some (.v (.bool false))=>I.code cx b E D s
    | _=>none
  | .block id b=>Xjn id (I.code cx b E D s)
  | .loop b=>match I.code cx b E D s with
    | some (.normal,E',D',s')=>I.code cx (.loop b) E' D' s'
    | r=>r
  | .rangeFunc g ps a b=>Xl3 I.call I.code cx g ps a b E D s
  | .exit id=>some (.exit id,E,D,s)
  | .ret=>some (.ret,E,D,s)
  | _=>none
def Xnp (T:Tab) (fn:Func):Option Res→Option (PV × St)
  | some (.exit _,_)=>none
  | some (_,E,D,s)=>match XfN D s with
    | some s'=>match Xeb T E s'.H fn.results.toList with
      | some ps=>some (Xq5 ps,s')
      | none=>none
    | none=>none
  | none=>none
def XjH (T:Tab) (I:Ev) (g:FuncId) (args:List PV) (s:St):Option (PV × St) :=
  match T.fn g with
  | some fn=>match fn.body with
    | some c=>match Nat.ble args.length fn.ntmps with
      | true=>Xnp T fn (I.code ⟨fn.ntmps,none,g⟩ c (XbG 0 args) [] s)
      | false=>none
    | none=>none
  | none=>none
def evN (T:Tab):Nat→Ev
  | 0=>⟨fun _ _ _ _ _=>none,fun _ _ _=>none⟩
  | n+1=>⟨XdQ T (evN T n),XjH T (evN T n)⟩
end Go.Ev
