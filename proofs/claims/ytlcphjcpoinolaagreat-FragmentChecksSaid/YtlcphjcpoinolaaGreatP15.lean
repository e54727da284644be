/- Part of the proof: the walk over the program and its laws: EvB. -/
import Derived.RangeFuncNested
import Derived.Test.YtlcphjcpoinolaaGreatP0
import Derived.Test.YtlcphjcpoinolaaGreatP14
set_option linter.unusedVariables false
namespace Go.Ev
open Go.RowKit
inductive XO where
  | loop (st:LoopState) (pend:Option Code) (fn:FuncId) (E:Env) (n:Nat) (params:Array Tmp) (assign body:Code) (d:Nat)
  | dfr (live:Bool)
  | map (es:List (Value × Value × Nat)) (clock:Nat)
  | sit (s:ByteArray) (pos:Nat)
  | mit (of_:Option Nat) (since:Nat) (seen:Array Nat) (last:Nat)
def Xan (e:Value × Value × Nat):MapEntry:={ key:=e.1,val:=e.2.1,born:=e.2.2 }
def Xgb (m:Mp) (w:World):XO→Obj→Prop
  | .loop st pend _ E n params assign body d,o=>∃ tmps D fn,o=.loop { state:=st,pending:=pend,fn,tmps,params,assign,body,defers:=D }∧tmps.size=n∧m.xb d=some D ∧
      ∀ t p,E.get t=some p→Rep m w p (tmps.getD t undef)
  | .dfr true,o=>o=.deferred (some [])
  | .dfr false,o=>o=.deferred none
  | .map es clock,o=>o=.map (es.map Xan).toArray clock
  | .sit s pos,o=>o=.stringIter s pos
  | .mit none since seen last,o=>o=.mapIter none since seen last
  | .mit (some i) since seen last,o=>∃ b,m.xb i=some b∧o=.mapIter (some b) since seen last
structure St where
  H:HP Blk
  X:List XO
def plus (m:Mp):Mp:={ m with keep:=fun b=>m.keep b∨∃ id,m.xb id=some b }
structure RX (m:Mp) (s:St) (w:World):Prop where
  r:R (plus m) s.H.list w
  rk:∀ b,m.ro b→m.keep b
  kx:∀ id b,m.xb id=some b→¬ m.keep b
  dom:∀ id b,m.xb id=some b→id < s.X.length
  obj:∀ id x,s.X[id]?=some x→∃ b o,m.xb id=some b∧w.heap[b]?=some o∧Xgb m w x o
  inj:∀ i j b,m.xb i=some b→m.xb j=some b→i=j
structure Lx (m:Mp) (w:World) (m':Mp) (w':World):Prop where
  blk:∀ id x,m.blk id=some x→m'.blk id=some x
  xb:∀ id b,m.xb id=some b→m'.xb id=some b
  ro:m'.ro=m.ro
  keep:m'.keep=m.keep
  same:∀ b,m.keep b→w'.heap[b]?=w.heap[b]?
  size:w.heap.size≤w'.heap.size
  os:w'.os=w.os
  tape:w'.tape=w.tape
  output:w'.output=w.output
  top:m'.top=m.top
  old:∀ id,id < m.top→m'.blk id=m.blk id
theorem Lx.refl (m:Mp) (w:World):Lx m w m w:=⟨fun _ _ h=>h,fun _ _ h=>h,rfl,rfl,fun _ _=>rfl,Nat.le_refl _,rfl,rfl,rfl,rfl,fun _ _=>rfl⟩
theorem Lx.trans {m m1 m2:Mp} {w w1 w2:World} (h:Lx m w m1 w1) (k:Lx m1 w1 m2 w2):Lx m w m2 w2 :=
  ⟨fun i x hx=>k.blk i x (h.blk i x hx),fun i x hx=>k.xb i x (h.xb i x hx),k.ro.trans h.ro,k.keep.trans h.keep,fun b hb=>(k.same b (by rw [h.keep];exact hb)).trans (h.same b hb),
    Nat.le_trans h.size k.size,k.os.trans h.os,k.tape.trans h.tape,k.output.trans h.output,k.top.trans h.top,fun id hid=>(k.old id (by rw [h.top];exact hid)).trans (h.old id hid)⟩
theorem Rep.mx {m m':Mp} {w w':World} (hk:∀ b,m.ro b→m.keep b) (h:Lx m w m' w') {p:PV} {v:Value} (r:Rep m w p v):Rep m' w' p v :=
  r.mono' h.blk h.xb (fun b hb=>by rw [h.ro];exact hb) fun b _ hb=>World.cell?_of_block (h.same b (hk b hb))
theorem Rep.plus {m:Mp} {w:World} {p:PV} {v:Value} (r:Rep m w p v):Rep (Ev.plus m) w p v:=Rep.mono' (m:=m) (w:=w) (m':=Ev.plus m) (w':=w) (fun _ _ h=>h) (fun _ _ h=>h) (fun _ h=>h) (fun _ _ _=>rfl) r
theorem Rep.unplus {m:Mp} {w:World} {p:PV} {v:Value} (r:Rep (Ev.plus m) w p v):Rep m w p v:=Rep.mono' (m:=Ev.plus m) (w:=w) (m':=m) (w':=w) (fun _ _ h=>h) (fun _ _ h=>h) (fun _ h=>h) (fun _ _ _=>rfl) r
theorem Xgb.mono {m m':Mp} {w w':World} (hb:∀ id x,m.blk id=some x→m'.blk id=some x) (hxb:∀ id b,m.xb id=some b→m'.xb id=some b) (hro:∀ b,m.ro b→m'.ro b) (hcell:∀ (b o:Nat),m.ro b→w'.cell? ⟨b,o,none⟩=w.cell? ⟨b,o,none⟩)
    {x:XO} {o:Obj} (h:Xgb m w x o):Xgb m' w' x o:=by
  cases x with
  | loop st pend fn E n params assign body d =>
    obtain ⟨tmps,D,fn',h1,h2,h3,h4⟩:=h
    exact ⟨tmps,D,fn',h1,h2,hxb _ _ h3,fun t p ht=>(h4 t p ht).mono' hb hxb hro hcell⟩
  | dfr l=>cases l <;> exact h
  | map es c=>exact h
  | sit s p=>exact h
  | mit f a b c =>
    cases f with
    | none=>exact h
    | some i=>obtain ⟨b',h1,h2⟩:=h;exact ⟨b',hxb _ _ h1,h2⟩
theorem Xgb.mx {m m':Mp} {w w':World} (hk:∀ b,m.ro b→m.keep b) (h:Lx m w m' w') {x:XO} {o:Obj} (r:Xgb m w x o):Xgb m' w' x o :=
  Xgb.mono h.blk h.xb (fun b hb=>by rw [h.ro];exact hb) (fun b _ hb=>World.cell?_of_block (h.same b (hk b hb))) r
theorem RX.op {m m1:Mp} {s:St} {w w':World} {H':HP Blk} (h:RX m s w) (hle:Le (plus m) w m1 w') (hR:R m1 H'.list w') :
    ∃ m',Lx m w m' w'∧RX m' ⟨H',s.X⟩ w'∧∀ p v,Rep m1 w' p v→Rep m' w' p v:=by
  have e1:m1.xb=m.xb:=hle.xb
  have e2:m1.ro=m.ro:=hle.ro
  have e3:m1.keep=(plus m).keep:=hle.keep
  have hL:Lx m w { m1 with keep:=m.keep } w':=⟨hle.blk,fun id b hb=>by show m1.xb id=some b;rw [e1];exact hb,e2,rfl,fun b hb=>hle.same b (.inl hb),hle.size,hle.os,hle.tape,hle.output,hle.top,hle.old⟩
  have hp:plus { m1 with keep:=m.keep }=m1:=by
    obtain ⟨blk,xb,ro,keep,top⟩:=m1
    simp only at e1 e3
    subst e1;subst e3
    rfl
  refine ⟨{ m1 with keep:=m.keep },hL,⟨by rw [hp];exact hR,fun b hb=>h.rk b (by rw [← e2];exact hb),fun id b hb=>h.kx id b (by rw [← e1];exact hb),fun id b hb=>h.dom id b (by rw [← e1];exact hb),fun id x hx=>?_,fun i j b hi hj=>h.inj i j b (by rw [← e1];exact hi) (by rw [← e1];exact hj)⟩,
    fun p v hr=>Rep.mono' (m:=m1) (w:=w') (m':={ m1 with keep:=m.keep }) (w':=w') (fun _ _ h=>h) (fun _ _ h=>h) (fun _ h=>h) (fun _ _ _=>rfl) hr⟩
  obtain ⟨b,o,h1,h2,h3⟩:=h.obj id x hx
  exact ⟨b,o,by show m1.xb id=some b;rw [e1];exact h1,(hle.same b (.inr ⟨id,h1⟩)).trans h2,h3.mx h.rk hL⟩
theorem RX.drew {m:Mp} {s:St} {w:World} (h:RX m s w):RX m s w.drew∧Lx m w m w.drew:=by
  obtain ⟨a,b⟩:=h.r.drew
  refine ⟨⟨a,h.rk,h.kx,h.dom,fun id x hx=>?_,h.inj⟩,⟨fun _ _ h=>h,fun _ _ h=>h,rfl,rfl,fun _ _=>rfl,Nat.le_refl _,rfl,rfl,rfl,rfl,fun _ _=>rfl⟩⟩
  obtain ⟨b,o,h1,h2,h3⟩:=h.obj id x hx
  exact ⟨b,o,h1,h2,Xgb.mono (m:=m) (w:=w) (m':=m) (w':=w.drew) (fun _ _ h=>h) (fun _ _ h=>h) (fun _ h=>h) (fun _ _ _=>rfl) h3⟩
theorem Xq6 {X:List XO} {id i:Nat} {x y:XO} (h:(X.set id x)[i]?=some y):(i=id∧y=x)∨(i≠id∧X[i]?=some y):=by
  by_cases e:i=id
  · subst e
    rw [List.getElem?_set_self'] at h
    cases hh:X[i]? with
    | none=>rw [hh] at h;simp at h
    | some z=>rw [hh] at h;simp at h;exact .inl ⟨rfl,h.symm⟩
  · rw [List.getElem?_set_ne (fun e'=>e e'.symm)] at h
    exact .inr ⟨e,h⟩
theorem R.putObj {m:Mp} {H:Xi} {w:World} (h:R m H w) {b:Nat} {o o':Obj} (ho:w.heap[b]?=some o) (hc:o.isCells=false) (hro:¬ m.ro b):R m H (w.putObj b o'):=by
  have hne:∀ c:Nat,(∃ cur e f,w.heap[c]?=some (.cells cur e f))→c≠b:=fun c ⟨cur,e,f,hcur⟩ hcb=>by
    subst hcb;rw [ho] at hcur;cases hcur;simp [Obj.isCells] at hc
  have hcell:∀ (c x:Nat),m.ro c→(w.putObj b o').cell? ⟨c,x,none⟩=w.cell? ⟨c,x,none⟩:=fun c x hc' =>
    World.cell?_of_block (World.putObj_heap_other (fun e=>hro (e ▸ hc')))
  refine ⟨h.rk,fun c hk=>by simpa using h.kl c hk,h.dom,fun id B c d lim hi hm=>?_,h.inj,h.top⟩
  obtain ⟨h0,⟨cur,h1,h2,h3,h4⟩,h5,h6⟩:=h.blk id B c d lim hi hm
  refine ⟨h0,⟨cur,?_,h2,h3,fun j p hj=>?_⟩,h5,h6⟩
  · rw [World.putObj_heap_other (hne c ⟨_,_,_,h1⟩)];exact h1
  · obtain ⟨v,hv,hr,h1v⟩:=h4 j p hj
    exact ⟨v,hv,hr.mono' (fun _ _ h=>h) (fun _ _ h=>h) (fun _ h=>h) hcell,h1v⟩
theorem Xgb.notCells {m:Mp} {w:World} {x:XO} {o:Obj} (h:Xgb m w x o):o.isCells=false:=by
  cases x with
  | loop=>obtain ⟨_,_,_,rfl,_⟩:=h;rfl
  | dfr l=>cases l <;> (simp only [Xgb] at h;subst h;rfl)
  | map=>simp only [Xgb] at h;subst h;rfl
  | sit=>simp only [Xgb] at h;subst h;rfl
  | mit f =>
    cases f with
    | none=>simp only [Xgb] at h;subst h;rfl
    | some i=>obtain ⟨_,_,rfl⟩:=h;rfl
theorem RX.setX {m:Mp} {s:St} {w:World} (h:RX m s w) {id b:Nat} {x x':XO} {o':Obj} (hx:s.X[id]?=some x) (hb:m.xb id=some b) (ho':Xgb m w x' o') :
    RX m ⟨s.H,s.X.set id x'⟩ (w.putObj b o')∧Lx m w m (w.putObj b o'):=by
  obtain ⟨b',o,h1,h2,h3⟩:=h.obj id x hx
  rw [hb] at h1;cases h1
  have hlt:b < w.heap.size:=(Array.getElem?_eq_some_iff.1 h2).1
  have hnk:¬ m.keep b:=h.kx id b hb
  have hnr:¬ m.ro b:=fun hr=>hnk (h.rk b hr)
  have hL:Lx m w m (w.putObj b o'):=⟨fun _ _ h=>h,fun _ _ h=>h,rfl,rfl,fun c hc=>World.putObj_heap_other (fun e=>hnk (e ▸ hc)),by simp,rfl,rfl,rfl,rfl,fun _ _=>rfl⟩
  refine ⟨⟨h.r.putObj h2 h3.notCells hnr,h.rk,h.kx,fun i c hc=>by simpa using h.dom i c hc,fun i y hy=>?_,h.inj⟩,hL⟩
  rcases Xq6 hy with ⟨rfl,rfl⟩ | ⟨hne,hy⟩
  · exact ⟨b,o',hb,World.putObj_heap_same hlt,ho'.mx h.rk hL⟩
  · obtain ⟨c,oc,k1,k2,k3⟩:=h.obj i y hy
    exact ⟨c,oc,k1,(World.putObj_heap_other (fun e=>hne (h.inj i id c k1 (by rw [e];exact hb)))).trans k2,k3.mx h.rk hL⟩
theorem RX.newX {m:Mp} {s:St} {w:World} (h:RX m s w) {x:XO} {o:Obj} (ho:Xgb m w x o) :
    ∃ m',m'.xb s.X.length=some w.heap.size∧RX m' ⟨s.H,s.X++[x]⟩ (w.alloc o)∧Lx m w m' (w.alloc o):=by
  have hR1:=h.r.alloc_any o
  have hL:Lx m w { m with xb:=fun i=>if i=s.X.length then some w.heap.size else m.xb i } (w.alloc o) :=
    ⟨fun _ _ h=>h,fun id b hb=>by
      have:=h.dom id b hb
      show (if id=s.X.length then some w.heap.size else m.xb id)=some b
      rw [if_neg (by omega)];exact hb,rfl,rfl,fun b hb=>Below.heap_alloc w o b (h.r.kl b (.inl hb)),by simp,rfl,rfl,rfl,rfl,fun _ _=>rfl⟩
  have hx:∀ id b,(if id=s.X.length then some w.heap.size else m.xb id)=some b→(id=s.X.length∧b=w.heap.size)∨(id < s.X.length∧m.xb id=some b):=fun id b hb=>by
    by_cases e:id=s.X.length
    · rw [if_pos e] at hb;cases hb;exact .inl ⟨e,rfl⟩
    · rw [if_neg e] at hb;exact .inr ⟨h.dom id b hb,hb⟩
  have hlt:∀ id b,m.xb id=some b→b < w.heap.size:=fun id b hb=>h.r.kl b (.inr ⟨id,hb⟩)
  refine ⟨{ m with xb:=fun i=>if i=s.X.length then some w.heap.size else m.xb i },by simp,⟨?_,h.rk,fun id b hb=>?_,fun id b hb=>?_,fun id y hy=>?_,fun i j b hi hj=>?_⟩,hL⟩
  ·
    obtain ⟨⟨a1,a2,a3,a4,a5,a6⟩,ale⟩:=hR1
    refine ⟨fun b hb=>.inl (h.rk b hb),fun b hb=>?_,a3,fun id B b d lim hi hm=>?_,a5,a6⟩
    · rcases hb with hb | ⟨id,hb⟩
      · exact a2 b (.inl hb)
      · rcases hx id b hb with ⟨_,rfl⟩ | ⟨_,hb⟩
        · simp
        · exact a2 b (.inr ⟨id,hb⟩)
    · obtain ⟨h0,⟨cur,h1,h2,h3,h4⟩,h5,h6⟩:=a4 id B b d lim hi hm
      refine ⟨h0,⟨cur,h1,h2,h3,fun j p hj=>?_⟩,fun hown hk=>?_,h6⟩
      · obtain ⟨v,hv,hr,h1v⟩:=h4 j p hj
        exact ⟨v,hv,(Rep.mono' (m:=Ev.plus m) (w:=w.alloc o) (w':=w.alloc o) hL.blk hL.xb (fun _ h=>h) (fun _ _ _=>rfl) hr).plus,h1v⟩
      · rcases hk with hk | ⟨id',hk⟩
        · exact h5 hown (.inl hk)
        · rcases hx id' b hk with ⟨_,e⟩ | ⟨_,hk⟩
          · exact absurd (h.r.lt hi hm) (by omega)
          · exact h5 hown (.inr ⟨id',hk⟩)
  · rcases hx id b hb with ⟨_,rfl⟩ | ⟨_,hb⟩
    · intro hk
      have:=h.r.kl _ (.inl hk)
      omega
    · exact h.kx id b hb
  · rcases hx id b hb with ⟨rfl,_⟩ | ⟨hl,_⟩
    · simp
    · simp;omega
  · rcases Nat.lt_or_ge id s.X.length with hlt2 | hge
    · rw [List.getElem?_append_left hlt2] at hy
      obtain ⟨c,oc,k1,k2,k3⟩:=h.obj id y hy
      exact ⟨c,oc,hL.xb id c k1,(Below.heap_alloc w o c (hlt id c k1)).trans k2,k3.mx h.rk hL⟩
    · have e:id=s.X.length:=by
        have:=(List.getElem?_eq_some_iff.1 hy).1
        simp at this
        omega
      subst e
      simp at hy
      subst hy
      exact ⟨w.heap.size,o,by simp,World.alloc_heap_new w o,ho.mx h.rk hL⟩
  · rcases hx i b hi with ⟨e1,e2⟩ | ⟨h1,h1'⟩
    · rcases hx j b hj with ⟨e3,_⟩ | ⟨_,h2'⟩
      · omega
      · have:=hlt j b h2';omega
    · rcases hx j b hj with ⟨_,e4⟩ | ⟨_,h2'⟩
      · have:=hlt i b h1';omega
      · exact h.inj i j b h1' h2'
end Go.Ev
namespace Go.Ev
open Go.RowKit
structure TI where
  desc:TypeDesc
  size:Nat
  bytes:Nat
  zero:List Value
  places:List (Nat × Nat)
  sc:Option Value
structure Tab where
  P:Program
  ti:TypeId→Option TI
  fn:FuncId→Option Func
  ext:FuncId→Bool
def XdT (P:Program) {α:Type}:Sem α→Option α
  | .pure a=>some a
  | .program k=>XdT P (k P)
  | _=>none
def Xf4 (z:List Value):Bool:=z.all fun x=>x.oneCell'
def vOf (v:Value):Option PV:=match Xfd v with
  | true=>some (.v v)
  | false=>none
def Xlr:PV→Option Nat
  | .v (.int _ (.ofNat k))=>some k
  | _=>none
def XbR (T:Tab) (t:TypeId):Option (TypeId × TI):=match T.ti t with
  | some i=>match i.desc with
    | .slice e=>match T.ti e with
      | some j=>some (e,j)
      | none=>none
    | _=>none
  | none=>none
def XgP:PV→Option Bool
  | .v (.slice none 0 0)=>some true
  | .sx _ _ _ _=>some false
  | .sl _ _ (_+1) _=>some false
  | _=>none
def ikN:IntKind→Nat
  | .i8=>0 | .i16=>1 | .i32=>2 | .i64=>3 | .u8=>4 | .u16=>5 | .u32=>6 | .u64=>7
def Xls:Int→Int→Bool
  | .ofNat a,.ofNat b=>Nat.beq a b
  | .negSucc a,.negSucc b=>Nat.beq a b
  | _,_=>false
def XhE:Int→Int→Bool
  | .ofNat a,.ofNat b=>Nat.blt a b
  | .negSucc _,.ofNat _=>true
  | .ofNat _,.negSucc _=>false
  | .negSucc a,.negSucc b=>Nat.blt b a
def vb (b:Bool):Option PV:=some (.v (.bool b))
def Xwq (op:BinOp) (k:IntKind) (a b:Int):Option PV :=
  match op with
  | .eql=>vb (Xls a b)
  | .neq=>vb (!Xls a b)
  | .lss=>vb (XhE a b)
  | .leq=>vb (!XhE b a)
  | .gtr=>vb (XhE b a)
  | .geq=>vb (!XhE a b)
  | .add=>match k,a,b with
    | .i64,.ofNat x,.ofNat y=>match Nat.ble (x+y) 9223372036854775807 with
      | true=>some (.v (.int .i64 (.ofNat (x+y))))
      | false=>none
    | _,_,_=>none
  | .sub=>match k,a,b with
    | .i64,.ofNat x,.ofNat y=>match Nat.ble y x && Nat.ble x 9223372036854775807 with
      | true=>some (.v (.int .i64 (.ofNat (x - y))))
      | false=>none
    | _,_,_=>none
  | _=>none
def Xld (T:Tab) (op:BinOp) (t:TypeId) (x y:Operand) (vx vy:Value):Option PV :=
  match XdT T.P (do eqGuard op t x y vx vy;binOp op t vx vy:Sem Value) with
  | some r=>vOf r
  | none=>none
def Xpe (T:Tab) (op:BinOp) (t:TypeId) (px py:PV):Option PV:=match T.ti t with
  | none=>none
  | some i=>match i.desc with
    | .slice _=>match XgP px,XgP py with
      | some a,some true=>match op with
        | .eql=>vb a
        | .neq=>vb (!a)
        | _=>none
      | _,_=>none
    | _=>none
def Xo4 (T:Tab) (op:BinOp) (t:TypeId) (px py:PV):Option PV:=match px,py with
  | .ptr i a,.ptr j b=>match T.ti t with
    | some k=>match k.desc,Nat.beq i j && Nat.beq a b with
      | .pointer u,true=>match T.ti u,op with
        | some _,.neq=>vb false
        | _,_=>none
      | _,_=>none
    | none=>none
  | .ptr _ _,.v (.pointer none)=>match T.ti t with
    | some k=>match k.desc,op with
      | .pointer _,.eql=>vb false
      | .pointer _,.neq=>vb true
      | _,_=>none
    | none=>none
  | _,_=>Xpe T op t px py
def XiI (T:Tab) (op:BinOp) (t:TypeId) (x y:Operand) (px py:PV):Option PV :=
  match toV px,toV py with
  | some vx,some vy=>Xld T op t x y vx vy
  | _,_=>Xo4 T op t px py
def XAD (T:Tab) (op:BinOp) (t:TypeId) (x y:Operand) (px py:PV):Option PV :=
  match px,py with
  | .v (.int k a),.v (.int j b)=>match Nat.beq (ikN k) (ikN j) with
    | true=>match Xwq op k a b with
      | some p=>some p
      | none=>XiI T op t x y px py
    | false=>none
  | _,_=>XiI T op t x y px py
def XdS (z:List Value) (n:Nat):List PV:=(List.range (n * z.length)).map fun j=>.v (z.getD (j % z.length) undef)
def Xs1 (s:St) (cs:List PV) (e:TypeId):Option St:=match cs.all XZ with
  | true=>some { s with H:=s.H.push (some ⟨cs,e,true⟩) }
  | false=>none
def Xro (H:HP Blk) (p:PV) (k:Nat):Option (List PV) :=
  match p with
  | .ptr id off=>match H.get id with
    | some B=>Xav k (B.cells.drop off)
    | none=>none
  | .ept cells off=>Xav k (cells.drop off)
  | _=>none
def XrM (d:TypeDesc) (size:Nat) (H:HP Blk) (p:PV):Option PV :=
  match Xd4 d with
  | true=>match Xro H p size with
    | some cs=>some (.agg cs)
    | none=>none
  | false=>match Xro H p 1 with
    | some [c]=>some c
    | _=>none
def Xgz (H:HP Blk) (p:PV) (cs:List PV):Option (HP Blk) :=
  match p with
  | .ptr id off=>match H.get id with
    | some B=>match B.own && Nat.ble (off+cs.length) B.cells.length with
      | true=>some (H.set id (some { B with cells:=Xaz B.cells off cs }))
      | false=>none
    | none=>none
  | _=>none
def Xak (H:HP Blk) (sz:Nat) (id off len sz':Nat):Option (Nat × List PV):=match Nat.beq sz' sz with
  | true=>match H.get id with
    | some B=>match Xav (len * sz) (B.cells.drop off) with
      | some cs=>some (len,cs)
      | none=>none
    | none=>none
  | false=>none
def Xt5 (H:HP Blk) (sz:Nat) (p:PV):Option (Nat × List PV) :=
  match p with
  | .sl id off len sz'=>Xak H sz id off len sz'
  | .sx id off len sz'=>Xak H sz id off len sz'
  | .tr cells len sz'=>match Nat.beq sz' sz with
    | true=>some (len,cells)
    | false=>none
  | .v (.slice none 0 _)=>some (0,[])
  | _=>none
def XA1 (H:HP Blk) (e:TypeId) (sz:Nat) (p:PV) (k:Nat) (xs:List PV):Option (PV × HP Blk) :=
  match p with
  | .v (.slice none 0 0)=>some (.sl H.n 0 k sz,H.push (some ⟨xs,e,true⟩))
  | .sl id 0 len sz'=>match Nat.beq sz' sz with
    | true=>match H.get id with
      | some B=>match B.own && Nat.beq B.elem e && Nat.beq B.cells.length (len * sz) with
        | true=>some (.sl H.n 0 (len+k) sz,(H.set id none).push (some ⟨B.cells++xs,e,true⟩))
        | false=>none
      | none=>none
    | false=>none
  | _=>none
def XjK (s:St) (sz:Nat):PV→St
  | .sl id 0 len _=>match s.H.get id with
    | some B=>match Nat.blt (len * sz) B.cells.length with
      | true=>{ s with H:=s.H.set id (some { B with cells:=B.cells.take (len * sz) }) }
      | false=>s
    | none=>s
  | _=>s
def Xw4:PV→Bool
  | .v (.slice none 0 0)=>true
  | .sl _ _ _ _=>true
  | .sx _ _ _ _=>true
  | _=>false
def XcR (sz:Nat) (p:PV) (l h:Nat):Option PV :=
  match p with
  | .v (.slice none 0 0)=>some (.v (.slice none 0 0))
  | .sl id off _ sz'=>match Nat.beq sz' sz with
    | true=>some (.sl id (off+l * sz) (h - l) sz)
    | false=>none
  | .sx id off _ sz'=>match Nat.beq sz' sz with
    | true=>some (.sl id (off+l * sz) (h - l) sz)
    | false=>none
  | _=>none
def Xys (sz:Nat):PV→Option (Nat × Nat × Nat)
  | .sl id off len sz'=>match Nat.beq sz' sz with | true=>some (id,off,len) | false=>none
  | .sx id off len sz'=>match Nat.beq sz' sz with | true=>some (id,off,len) | false=>none
  | _=>none
def Xg7 (T:Tab) (t:TypeId) (p q:PV) (s:St):Option (PV × St) :=
  match XbR T t,Xlr q,p with
  | some (e,i),some (k+1),.v (.slice none 0 0)=>match Xf4 i.zero && Nat.beq i.zero.length i.size && Nat.ble 1 i.size && Nat.ble (k+1) 1048576 && Nat.ble ((k+1) * i.bytes) 16777216 with
    | true=>match Xs1 s (XdS i.zero (k+1)) e with
      | some s'=>some (.sl s.H.n 0 (k+1) i.size,s')
      | none=>none
    | false=>none
  | _,_,_=>none
def Xkr (s:St) (e:TypeId) (sz:Nat) (p:PV) (k:Nat) (xs:List PV):Option (PV × St) :=
  match p with
  | .sx _ _ _ _=>match Xt5 s.H sz p with
    | none=>none
    | some (n,old)=>match Xs1 s (old++xs) e with
      | none=>none
      | some s'=>some (.sl s.H.n 0 (n+k) sz,s')
  | _=>match XA1 s.H e sz p k xs with
    | some (r,H')=>some (r,{ s with H:=H' })
    | none=>none
def Xks (e:TypeId) (i:TI) (p q:PV) (s:St):Option (PV × St):=match Xt5 s.H i.size q with
  | none=>none
  | some (k,xs)=>match k with
    | 0=>match Xw4 p with
      | true=>some (p,s)
      | false=>none
    | _+1=>match Xb2 p with
      | none=>none
      | some len=>match xs.all XZ && Nat.beq i.zero.length i.size && Nat.ble ((len+k) * i.bytes) 140737488355328 && Nat.ble (len+k) 9223372036854775807 with
        | false=>none
        | true=>Xkr s e i.size p k xs
def Xjc (T:Tab) (t:TypeId) (p q:PV) (s:St):Option (PV × St) :=
  match XbR T t with
  | none=>none
  | some (e,i)=>Xks e i p q (XjK s i.size p)
def Xi6 (k:Value) (kind:TypeDesc):List (Value × Value × Nat)→Nat→Option (Option Nat)
  | [],_=>some none
  | e::es,i=>match Instr.sameNow kind k e.1 with
    | some true=>some (some i)
    | some false=>Xi6 k kind es (i+1)
    | none=>none
def Xpb (kind:TypeDesc) (k:Value):Bool:=match kind,k with
  | .int _,.int _ _=>true
  | .string,.string _=>true
  | .bool,.bool _=>true
  | _,_=>false
def Xlm (T:Tab) (t:TypeId):Option (TypeDesc × TI):=match T.ti t with
  | some i=>match i.desc with
    | .map k e=>match T.ti k,T.ti e with
      | some a,some b=>some (a.desc,b)
      | _,_=>none
    | _=>none
  | none=>none
def Xfw:Value→Value→Bool
  | .bool a,.bool b=>a == b
  | .int j a,.int k b=>j == k && a == b
  | .string a,.string b=>a == b
  | _,_=>false
def XmO (T:Tab) (t:TypeId) (m k v:PV) (s:St):Option St :=
  match Xlm T t,m,k,v with
  | some (kind,_),.mp id,.v kv,.v vv=>match Xpb kind kv && Xfd vv with
    | false=>none
    | true=>match s.X[id]? with
      | some (.map es clock)=>match Xi6 kv kind es 0 with
        | none=>none
        | some none=>some { s with X:=s.X.set id (.map (es++[(kv,vv,clock)]) (clock+1)) }
        | some (some i)=>match es[i]? with
          | some e=>match Xfw e.1 kv with
            | true=>some { s with X:=s.X.set id (.map (es.set i (kv,vv,e.2.2)) clock) }
            | false=>none
          | none=>none
      | _=>none
  | _,_,_,_=>none
def Xi9 (T:Tab) (t:TypeId) (m k:PV) (s:St):Option St :=
  match Xlm T t,m,k with
  | some (kind,_),.mp id,.v kv=>match Xpb kind kv with
    | false=>none
    | true=>match s.X[id]? with
      | some (.map es clock)=>match Xi6 kv kind es 0 with
        | none=>none
        | some none=>some { s with X:=s.X.set id (.map es clock) }
        | some (some i)=>some { s with X:=s.X.set id (.map (es.eraseIdx i) clock) }
      | _=>none
  | _,_,_=>none
def XAB (kv:Value) (kind:TypeDesc) (z:Option Value) (es:List (Value × Value × Nat)):Option (PV × Bool):=match Xpb kind kv with
  | false=>none
  | true=>match Xi6 kv kind es 0 with
    | none=>none
    | some none=>match z with
      | some z=>match vOf z with
        | some p=>some (p,false)
        | none=>none
      | none=>none
    | some (some i)=>match es[i]? with
      | some e=>match vOf e.2.1 with
        | some p=>some (p,true)
        | none=>none
      | none=>none
def Xi7 (T:Tab) (t:TypeId) (ok:Bool) (s:St):Option PV→Option PV→Option PV
  | some m,some (.v kv)=>match Xlm T t,(match m with | .mp id=>(match s.X[id]? with | some (.map es _)=>some es | _=>none) | .v (.map none)=>some [] | _=>none) with
    | some (kind,i),some es=>match XAB kv kind i.sc es with
      | some (p,b)=>match ok with
        | true=>some (.tup [p,.v (.bool b)])
        | false=>some p
      | none=>none
    | _,_=>none
  | _,_=>none
def Xtb (p:PV) (s:St):Option (PV × St) :=
  match p with
  | .it id=>match s.X[id]? with
    | some (.mit none _ _ _)=>some (.tup [.v (.bool false)],s)
    | some (.mit (some mp) _ _ _)=>match s.X[mp]? with
      | some (.map es _)=>match es with
        | []=>some (.tup [.v (.bool false)],s)
        | _=>none
      | _=>none
    | _=>none
  | _=>none
def XlE (T:Tab) (t:TypeId) (x:PV) (s:St):Option (PV × St) :=
  match XbR T t with
  | none=>none
  | some (_,i)=>match Xys i.size x with
    | none=>none
    | some (id,off,n)=>match n with
      | 0=>some (.tup [],s)
      | _+1=>match Xf4 i.zero && Nat.beq i.zero.length i.size with
        | true=>match Xgz s.H (.ptr id off) (XdS i.zero n) with
          | some H'=>some (.tup [],{ s with H:=H' })
          | none=>none
        | false=>none
def capV:PV→Option Nat
  | .v (.slice none 0 0)=>some 0
  | .sx _ _ n _=>some n
  | _=>none
def Xw5 (s:St):Option Nat→Option (PV × St)
  | some n=>some (.v (.int .i64 (.ofNat n)),s)
  | none=>none
def Xgm (T:Tab) (t:TypeId):Bool:=match XbR T t with
  | some _=>true
  | none=>false
def Xwp (T:Tab) (t:TypeId) (x:PV):Option Nat:=match x with
  | .v (.string b)=>match T.ti t with
    | some i=>match i.desc with
      | .string=>some b.size
      | _=>none
    | none=>none
  | _=>match Xgm T t with
    | true=>Xb2 x
    | false=>none
def Xwr (T:Tab) (t:TypeId) (x:PV):Option Nat:=match Xgm T t with
  | true=>capV x
  | false=>none
def XsS (b:ByteArray):List PV:=b.data.toList.map fun x=>.v (.int .u8 (.ofNat x.toNat))
def Xg8 (T:Tab) (t:TypeId) (p q:PV) (s:St):Option (PV × St) :=
  match XbR T t,q with
  | some (e,i),.v (.string b)=>match Xb2 p with
    | none=>none
    | some len=>match Nat.ble 1 b.size && Nat.beq i.zero.length i.size && Nat.beq i.size 1 && Nat.ble ((len+b.size) * i.bytes) 140737488355328 && Nat.ble (len+b.size) 9223372036854775807 with
      | false=>none
      | true=>match XA1 s.H e i.size p b.size (XsS b) with
        | some (r,H')=>some (r,{ s with H:=H' })
        | none=>none
  | _,_=>none
def Xkq (T:Tab) (t u:TypeId) (x y:PV) (s:St):Option (PV × St):=match Nat.beq u t with
  | true=>Xjc T t x y s
  | false=>match T.ti u with
    | some j=>match j.desc with
      | .int _=>Xg7 T t x y s
      | .string=>Xg8 T t x y s
      | _=>none
    | none=>none
def XhI (m:Bool):List PV→Option PV
  | [.v (.int k a),.v (.int j b)]=>match Nat.beq (ikN k) (ikN j),XhE b a with
    | true,true=>some (.v (.int k (cond m b a)))
    | true,false=>some (.v (.int k (cond m a b)))
    | false,_=>none
  | _=>none
def XkN:List PV→Option (List UInt8)
  | []=>some []
  | .v (.int .u8 (.ofNat x))::r=>match Nat.blt x 256,XkN r with
    | true,some l=>some (UInt8.ofNat x::l)
    | _,_=>none
  | _=>none
def XbE:List PV→Option PV
  | [.sl id off (_+1) _]=>some (.ptr id off)
  | [.sx id off (_+1) _]=>some (.ptr id off)
  | _=>none
def Xkn (T:Tab) (s:St) (ps:List PV) (ts:List TypeId):Option (PV × St):=match ps,ts with
  | [.ptr id 0,.v (.int .i64 (.ofNat n))],[pt,_]=>match T.ti pt,s.H.get id with
    | some i,some B=>match i.desc with
      | .pointer e=>match T.ti e,XkN B.cells with
        | some j,some l=>match B.own && Nat.beq B.elem e && Nat.beq j.size 1 && Nat.beq n l.length && Nat.ble 1 n && Nat.ble n 9223372036854775807 with
          | true=>some (.v (.string ⟨l.toArray⟩),{ s with H:=s.H.set id none })
          | false=>none
        | _,_=>none
      | _=>none
    | _,_=>none
  | _,_=>none
def X9 (T:Tab) (b:Builtin) (args:List PV) (ts:List TypeId) (s:St):Option (PV × St) :=
  match b with
  | .len=>match args,ts with
    | [x],[t]=>Xw5 s (Xwp T t x)
    | _,_=>none
  | .cap=>match args,ts with
    | [x],[t]=>Xw5 s (Xwr T t x)
    | _,_=>none
  | .append=>match args,ts with
    | [x,y],[t,u]=>Xkq T t u x y s
    | _,_=>none
  | .clear=>match args,ts with
    | [x],[t]=>XlE T t x s
    | _,_=>none
  | .delete=>match args,ts with
    | [m,k],[t,_]=>match Xi9 T t m k s with
      | some s'=>some (.tup [],s')
      | none=>none
    | _,_=>none
  | .min=>match XhI true args with
    | some p=>some (p,s)
    | none=>none
  | .max=>match XhI false args with
    | some p=>some (p,s)
    | none=>none
  | .unsafeSliceData=>match ts with
    | [_]=>match XbE args with
      | some p=>some (p,s)
      | none=>none
    | _=>none
  | .unsafeString=>Xkn T s args ts
  | _=>none
def Xd0 (E:Env):Option Operand→Option (Option Nat)
  | none=>some none
  | some x=>match E.ev x with
    | some p=>match Xlr p with
      | some k=>some (some k)
      | none=>none
    | none=>none
def same (s:St):Option PV→Option (PV × St)
  | some p=>some (p,s)
  | none=>none
def XmP (E:Env) (c a b:Operand):Option PV:=match E.ev c with
  | some (.v (.bool t))=>match t with
    | true=>E.ev a
    | false=>E.ev b
  | _=>none
def XlF (T:Tab) (t:TypeId) (s:St):Option (PV × St):=match T.ti t with
  | some i=>match Xf4 i.zero with
    | true=>some (.ptr s.H.n 0,{ s with H:=s.H.push (some ⟨i.zero.map PV.v,t,true⟩) })
    | false=>none
  | none=>none
def Xws (t:TypeId) (s:St):Option PV→Option (PV × St)
  | some p=>match Xs1 s (cellsOf p) t with
    | some s'=>some (.ptr s.H.n 0,s')
    | none=>none
  | none=>none
def Xja (T:Tab) (t:TypeId):Option (List (Nat × PV))→Option PV
  | some ps=>match T.ti t with
    | some i=>match i.desc,Xf4 i.zero,Xcn (fun (j:Nat)=>i.places[j]?) (i.zero.map PV.v) ps with
      | .struct _,true,some cs=>some (.agg cs)
      | _,_,_=>none
    | none=>none
  | none=>none
def Xwo (T:Tab) (t:TypeId) (n:Nat) (s:St):Option (List (Nat × PV))→Option (PV × St)
  | some ps=>match XbR T t with
    | some (e,i)=>match Xf4 i.zero && Nat.beq i.zero.length i.size && Nat.ble 1 i.size && Nat.ble (n * i.size) 16777216 with
      | true=>match Xcn (fun j=>some (j * i.size,i.size)) ((List.range (n * i.size)).map fun j=>.v (i.zero.getD (j % i.zero.length) undef)) ps with
        | some cs=>match Xs1 s cs e with
          | some s'=>some (.sx s.H.n 0 n i.size,s')
          | none=>none
        | none=>none
      | false=>none
    | none=>none
  | none=>none
def XpY (T:Tab) (t:TypeId) (s:St):Option PV→Option PV
  | some p=>match T.ti t with
    | some i=>XrM i.desc i.size s.H p
    | none=>none
  | none=>none
def Xed (T:Tab) (t:TypeId) (s:St):Option PV→Option PV→Option (PV × St)
  | some p,some q=>match T.ti t with
    | some i=>match Nat.beq (cellsOf q).length i.size && (cellsOf q).all XZ with
      | true=>match Xgz s.H p (cellsOf q) with
        | some H'=>some (.v undef,{ s with H:=H' })
        | none=>none
      | false=>none
    | none=>none
  | _,_=>none
def XfK:Option PV→Option PV
  | some (.ptr id off)=>some (.ptr id off)
  | some (.ept c off)=>some (.ept c off)
  | some (.fn (.func g) c)=>some (.fn (.func g) c)
  | some (.yld l)=>some (.yld l)
  | _=>none
def XmS (T:Tab) (op:BinOp) (t:TypeId) (x y:Operand):Option PV→Option PV→Option PV
  | some px,some py=>XAD T op t x y px py
  | _,_=>none
def XAY (T:Tab) (op:UnOp):Option PV→Option PV
  | some (.v (.bool b))=>match op with
    | .not=>vb (!b)
    | _=>none
  | some (.v v)=>match XdT T.P (Op.unary op v) with
    | some r=>vOf r
    | none=>none
  | _=>none
def Xp2 (T:Tab) (a b:TypeId):Option PV→Option PV
  | some (.v v)=>match XdT T.P (convert a b v) with
    | some r=>vOf r
    | none=>none
  | _=>none
def Xp1 (T:Tab) (a b:TypeId) (H:HP Blk) (id off:Nat):Option PV:=match T.ti a,T.ti b,H.get id with
  | some i,some j,some B=>match i.desc,j.desc with
    | .pointer t,.unsafePointer=>match T.ti t with
      | some k=>match Nat.ble 1 k.size && Nat.ble (off+1) B.cells.length with
        | true=>some (.ptr id off)
        | false=>none
      | none=>none
    | .unsafePointer,.pointer u=>match T.ti u,T.ti B.elem with
      | some _,some k=>match Nat.ble k.size B.cells.length && Nat.ble (off+1) k.size && rowAt T.P (sameLayout T.P T.P.depth · u) T.P.depth B.elem 1 off 1 with
        | true=>some (.ptr id off)
        | false=>none
      | _,_=>none
    | _,_=>none
  | _,_,_=>none
def XlD (T:Tab) (a b:TypeId) (s:St):Option PV→Option PV
  | some (.ptr id off)=>Xp1 T a b s.H id off
  | q=>Xp2 T a b q
def XmQ (f:Fn) (first:Array Operand):Option (List PV)→Option PV
  | some ps=>match first.isEmpty with
    | true=>some (.fn f ps)
    | false=>none
  | none=>none
def Xik (T:Tab) (t:TypeId) (b:ByteArray) (l h:Nat):Option PV:=match Nat.ble l h && Nat.ble h b.size with
  | true=>match T.ti t with
    | some i=>match i.desc with
      | .string=>some (.v (.string (b.extract l h)))
      | _=>none
    | none=>none
  | false=>none
def Xil (T:Tab) (t:TypeId) (p:PV) (l h n:Nat):Option PV:=match Nat.ble l h && Nat.ble h n with
  | true=>match XbR T t with
    | some (_,i)=>XcR i.size p l h
    | none=>none
  | false=>none
def Xfk (T:Tab) (t:TypeId) (p:Option PV) (l h:Option (Option Nat)) (mx:Option Operand):Option PV :=
  match p,l,h,mx with
  | some (.v (.string b)),some l,some h,none=>Xik T t b (l.getD 0) (h.getD b.size)
  | some p,some l,some h,none=>match Xb2 p with
    | some n=>Xil T t p (l.getD 0) (h.getD n) n
    | none=>none
  | _,_,_,_=>none
def Xi8 (T:Tab) (t:TypeId) (k:Nat):Option PV→Option PV
  | some p=>match T.ti t with
    | some i=>match i.desc,i.places[k]? with
      | .struct _,some (off,_+1)=>XdM p off
      | _,_=>none
    | none=>none
  | none=>none
def XmR (T:Tab) (t:TypeId):Option PV→Option PV→Option PV
  | some p,some q=>match XbR T t with
    | some (_,i)=>match Xlr q,Xb2 p with
      | some k,some n=>match Nat.blt k n with
        | true=>Xck p i.size k
        | false=>none
      | _,_=>none
    | none=>none
  | _,_=>none
def XpZ (T:Tab) (t:TypeId):Option PV→Option PV→Option PV
  | some (.v (.string b)),some q=>match Xlr q,T.ti t with
    | some k,some i=>match i.desc,b[k]? with
      | .string,some c=>some (.v (.int .u8 c.toNat))
      | _,_=>none
    | _,_=>none
  | _,_=>none
def Xg2 (T:Tab) (t:TypeId) (s:St):Option PV→Option PV→Option PV→Option (PV × St)
  | some m,some k,some v=>match XmO T t m k v s with
    | some s'=>some (.v undef,s')
    | none=>none
  | _,_,_=>none
def Xg5 (T:Tab) (t:TypeId) (s:St):Option PV→Option (PV × St)
  | some (.mp id)=>match T.ti t with
    | some i=>match i.desc,s.X[id]? with
      | .map _ _,some (.map _ clock)=>some (.it s.X.length,{ s with X:=s.X++[.mit (some id) clock #[] clock] })
      | _,_=>none
    | none=>none
  | some (.v (.map none))=>match T.ti t with
    | some i=>match i.desc with
      | .map _ _=>some (.it s.X.length,{ s with X:=s.X++[.mit none 0 #[] 0] })
      | _=>none
    | none=>none
  | _=>none
def XlC (s:St):Option PV→Option (PV × St)
  | some p=>Xtb p s
  | none=>none
def Xg6 (k:Nat):Option PV→Option PV
  | some (.tup ps)=>ps[k]?
  | _=>none
def Xbo (T:Tab) (b:Builtin) (ts:List TypeId) (s:St):Option (List PV)→Option (PV × St)
  | some ps=>X9 T b ps ts s
  | none=>none
def evO (T:Tab) (o:Oper) (E:Env) (s:St):Option (PV × St) :=
  match o.op with
  | .move x=>same s (E.ev x)
  | .assign x=>same s (E.ev x)
  | .pick c a b=>same s (XmP E c a b)
  | .alloc t=>XlF T t s
  | .box t x=>Xws t s (E.ev x)
  | .build t parts=>same s (Xja T t (evp E parts.toList))
  | .buildSlice t n parts=>Xwo T t n s (evp E parts.toList)
  | .load t x=>same s (XpY T t s (E.ev x))
  | .store t x y=>Xed T t s (E.ev x) (E.ev y)
  | .nilCheck x=>same s (XfK (E.ev x))
  | .binOp op t x y _=>same s (XmS T op t x y (E.ev x) (E.ev y))
  | .unOp op _ x=>same s (XAY T op (E.ev x))
  | .convert a b x=>same s (XlD T a b s (E.ev x))
  | .makeFunc f first caps=>same s (XmQ f first (evs E caps.toList))
  | .makeMap _ none=>some (.mp s.X.length,{ s with X:=s.X++[.map [] 0] })
  | .slice t x lo hi mx=>same s (Xfk T t (E.ev x) (Xd0 E lo) (Xd0 E hi) mx)
  | .fieldAddr t x k=>same s (Xi8 T t k (E.ev x))
  | .indexAddr t x y=>same s (XmR T t (E.ev x) (E.ev y))
  | .index t x y=>same s (XpZ T t (E.ev x) (E.ev y))
  | .lookup t x y ok=>same s (Xi7 T t ok s (E.ev x) (E.ev y))
  | .mapUpdate t x y z=>Xg2 T t s (E.ev x) (E.ev y) (E.ev z)
  | .range t x=>Xg5 T t s (E.ev x)
  | .next x false=>XlC s (E.ev x)
  | .extract x k=>same s (Xg6 k (E.ev x))
  | .call { callee:=.builtin b,args,argTypes }=>Xbo T b argTypes.toList s (evs E args.toList)
  | _=>none
abbrev XdJ:=FuncId→List PV→St→Option (PV × St)
abbrev XkY:=Nat→List PV→St→Option (PV × St)
def Xtc (call:XdJ) (rnd:XkY) (s:St):Option PV→Option (List PV)→Option (PV × St)
  | some (.fn (.func g) cap),some ps=>call g (ps++cap) s
  | some (.yld l),some ps=>rnd l ps s
  | _,_=>none
def XeB (o:Oper):Option (Operand × List Operand):=match o.op with
  | .call { callee:=.value x,args,.. }=>some (x,args.toList)
  | _=>none
def XAC (T:Tab):Option PV→Option (List PV)→Option PV
  | some (.fn (.func g) []),some [p]=>match T.ext g with
    | true=>some p
    | false=>none
  | _,_=>none
def XkX (T:Tab) (call:XdJ) (rnd:XkY) (o:Oper) (E:Env) (s:St):Option (PV × St) :=
  match XeB o with
  | some (x,args)=>match XAC T (E.ev x) (evs E args) with
    | some p=>some (p,s)
    | none=>Xtc call rnd s (E.ev x) (evs E args)
  | none=>evO T o E s
def XsW (n:Nat) (E:Env) (o:Oper) (p:PV):Option Env:=match o.dst with
  | none=>some E
  | some d=>match Nat.blt d n with
    | true=>some (E.put d p)
    | false=>none
def Xkl (all_:List Oper) (E:Env):Option (Nat × Bool)→Option Bool
  | none=>some true
  | some (j,want)=>match all_[j]? with
    | none=>none
    | some oj=>match oj.dst with
      | none=>none
      | some dj=>match E.get dj with
        | some (.v (.bool b))=>match b with
          | true=>some want
          | false=>some (!want)
        | some (.v (.tuple _))=>some false
        | _=>none
def Xtk (n:Nat) (E:Env) (o:Oper):Option (PV × St)→Option (Env × St)
  | some (p,s)=>match XsW n E o p with
    | some E'=>some (E',s)
    | none=>none
  | none=>none
def Xyh (n:Nat) (E:Env) (o:Oper) (s:St):Option (Env × St):=match o.dst with
  | none=>none
  | some d=>match Nat.blt d n with
    | true=>some (E.put d (.v undef),s)
    | false=>none
def Xwn (T:Tab) (call:XdJ) (rnd:XkY) (n:Nat) (o:Oper) (E:Env) (s:St):Option Bool→Option (Env × St)
  | some true=>Xtk n E o (XkX T call rnd o E s)
  | some false=>Xyh n E o s
  | none=>none
def Xkp (T:Tab) (call:XdJ) (rnd:XkY) (n:Nat) (all_:List Oper):List Oper→Env→St→Option (Env × St)
  | [],E,s=>some (E,s)
  | o::r,E,s=>match Xwn T call rnd n o E s (Xkl all_ E o.guard) with
    | some (E',s')=>Xkp T call rnd n all_ r E' s'
    | none=>none
inductive Ex where
  | normal
  | exit (id:Nat)
  | ret
  deriving Inhabited
structure Cx where
  n:Nat
  rd:Option Nat
  f:FuncId
abbrev Res:=Ex × Env × List Nat × St
def XcH (n:Nat):List Tmp→List PV→Env→Option Env
  | [],[],E=>some E
  | t::ts,p::ps,E=>match Nat.blt t n with
    | true=>XcH n ts ps (E.put t p)
    | false=>none
  | _,_,_=>none
def XmE:Ex→Option Code
  | .normal=>none
  | .exit id=>some (.exit id)
  | .ret=>some .ret
def Xg4 (code:Cx→Code→Env→List Nat→St→Option Res) (l:Nat) (args:List PV) (s:St):Option (PV × St) :=
  match s.X[l]? with
  | some (.loop .ready none f E n params assign body d)=>match XcH n params.toList args E with
    | none=>none
    | some E1=>match code ⟨n,some l,f⟩ assign E1 [] s with
      | some (.normal,E2,[],s1)=>match s1.X[l]? with
        | some (.loop .ready none f' E' n' params' assign' body' d') =>
          match code ⟨n,some l,f⟩ body E2 [] { s1 with X:=s1.X.set l (.loop .busy none f' E' n' params' assign' body' d') } with
          | some (e,_,[],s2)=>match s2.X[l]? with
            | some (.loop .busy none f' E' n' params' assign' body' d')=>match XmE e with
              | none=>some (.v (.bool true),{ s2 with X:=s2.X.set l (.loop .ready none f' E' n' params' assign' body' d') })
              | some c=>some (.v (.bool false),{ s2 with X:=s2.X.set l (.loop .done (some c) f' E' n' params' assign' body' d') })
            | _=>none
          | _=>none
        | _=>none
      | _=>none
  | _=>none
def XlB (call:XdJ) (code:Cx→Code→Env→List Nat→St→Option Res) (cx:Cx) (g:Operand) (params:Array Tmp) (assign body:Code) (E:Env) (D:List Nat) (s:St):Option Res :=
  match E.ev g with
  | some (.fn (.func gf) cap) =>
    let ent:Option (Nat × List Nat × St):=match cx.rd with
      | none=>some (s.X.length,s.X.length::D,{ s with X:=s.X++[.dfr true] })
      | some l=>match s.X[l]? with
        | some (.loop _ _ _ _ _ _ _ _ d)=>some (d,D,s)
        | _=>none
    match ent with
    | none=>none
    | some (d,D',s1) =>
      let l:=s1.X.length
      match call gf (.yld l::cap) { s1 with X:=s1.X++[.loop .ready none cx.f E cx.n params assign body d] } with
      | none=>none
      | some (_,s2)=>match s2.X[l]? with
        | some (.loop st pend f' E' n' params' assign' body' d')=>match decide (st=.busy) with
          | true=>none
          | false =>
            let s3:St:={ s2 with X:=s2.X.set l (.loop .exhausted pend f' E' n' params' assign' body' d') }
            match pend with
            | none=>some (.normal,E,D',s3)
            | some c=>code cx c E D' s3
        | _=>none
  | _=>none
end Go.Ev
namespace Go.Ev
open Go.RowKit
def Xa6 (o:Oper):List Nat:=o.op.operands.toList.filterMap fun | .tmp t=>some t | _=>none
def XK (o:Oper) (E:Env):Env:=E.only (Xa6 o)
def Xfe (acc:List Nat) (o:Oper):Nat:=o.after.toList.foldl (fun s e=>if Region.binds .any e then s ||| 2 ^ e.on ||| acc.getD e.on 0 else s) 0
def bef:List Oper→List Nat→List Nat
  | [],acc=>acc
  | o::r,acc=>bef r (acc++[Xfe acc o])
def Xa4 (bs:List Nat) (j i:Nat):Bool:=(bs.getD i 0).testBit j
def Xsc (l:List Oper):Bool:=l.zipIdx.all fun (o,i)=>o.after.toList.all fun e=>!Region.binds .any e || Nat.blt e.on i
def Xq (o:Oper):Bool :=
  match o.op with
  | .store .. | .alloc _ | .box .. | .buildSlice .. | .makeMap .. | .makeSlice .. | .mapUpdate .. | .range .. | .next ..=>true
  | .call { callee:=.builtin b,.. }=>match b with | .len | .cap | .min | .max | .unsafeSliceData=>false | _=>true
  | .call _=>true
  | _=>false
def Xc8 (o:Oper):Bool :=
  match o.op with
  | .load ..=>true
  | .convert ..=>true
  | .lookup ..=>true
  | _=>false
def XuH (o:Oper):Bool:=o.guard.isNone && o.dst.isSome &&
  match o.op with
  | .alloc _=>true
  | .box ..=>true
  | .buildSlice ..=>true
  | _=>false
def XpV (l:List Oper):List Bool :=
  l.zipIdx.map fun (o,i)=>XuH o && l.zipIdx.any fun (o',j)=>Xq o' && !Nat.beq i j && !Xa4 (bef l []) i j && !Xa4 (bef l []) j i
def XaU (l:List Oper) (i:Nat):Bool:=(XpV l).getD i false
def XaC (l:List Oper) (i:Nat) (o:Oper):Bool:=Xq o && !XaU l i
def XcZ (T:Tab) (o:Oper) (E:Env):Option Blk :=
  match o.op with
  | .alloc t=>match T.ti t with
    | some i=>match Xf4 i.zero with
      | true=>some ⟨i.zero.map PV.v,t,true⟩
      | false=>none
    | none=>none
  | .box t x=>match E.ev x with
    | some p=>match (cellsOf p).all XZ with
      | true=>some ⟨cellsOf p,t,true⟩
      | false=>none
    | none=>none
  | .buildSlice t n parts=>match XbR T t,evp E parts.toList with
    | some (e,i),some ps=>match Xf4 i.zero && Nat.beq i.zero.length i.size && Nat.ble 1 i.size && Nat.ble (n * i.size) 16777216 with
      | true=>match Xcn (fun j=>some (j * i.size,i.size)) ((List.range (n * i.size)).map fun j=>.v (i.zero.getD (j % i.zero.length) undef)) ps with
        | some cs=>match cs.all XZ with
          | true=>some ⟨cs,e,true⟩
          | false=>none
        | none=>none
      | false=>none
    | _,_=>none
  | _=>none
def XcY (T:Tab) (o:Oper) (id:Nat):Option PV :=
  match o.op with
  | .alloc _=>some (.ptr id 0)
  | .box _ _=>some (.ptr id 0)
  | .buildSlice t n _=>match XbR T t with
    | some (_,i)=>some (.sx id 0 n i.size)
    | none=>none
  | _=>none
def Xfj (T:Tab) (l:List Oper) (s:St):Nat→Env→List Oper→Option (List Blk)
  | _,_,[]=>some []
  | i,E,o::r=>match XaU l i with
    | true=>match XcZ T o E,Xfj T l s (i+1) E r with
      | some b,some bs=>some (b::bs)
      | _,_=>none
    | false=>match Xq o,o.guard,o.dst with
      | false,none,some d=>match evO T o E s with
        | some (p,_)=>Xfj T l s (i+1) (E.put d p) r
        | none=>Xfj T l s (i+1) E r
      | _,_,_=>Xfj T l s (i+1) E r
def swB:Option (Nat × Nat)→Nat→Nat→Bool
  | some (a,b),i,j=>Nat.beq a i && Nat.beq b j || Nat.beq a j && Nat.beq b i
  | none,_,_=>false
def XfN (l:List Oper) (sw:Option (Nat × Nat)):Bool :=
  let bs:=bef l []
  Xsc l &&
  (l.zipIdx.all fun (oi,i)=>l.zipIdx.all fun (oj,j)=>Nat.beq i j ||
    ((oi.dst.all fun d=>!(Xa6 oj).contains d || (if i < j then Xa4 bs i j else Xa4 bs j i)) &&
     (oi.dst.all fun d=>oj.dst.all fun d'=>!Nat.beq d d') &&
     (!(XaC l i oi && XaC l j oj) || swB sw i j || (if i < j then Xa4 bs i j else Xa4 bs j i)))) &&
  (l.zipIdx.all fun (o,i)=>match o.guard with
    | none=>true
    | some (j,_)=>Xa4 bs j i && Nat.blt j i && !XaU l i) &&
  (match sw with
    | none=>true
    | some (a,b)=>Nat.blt a b && (l.zipIdx.all fun (o,i)=>Nat.beq i a || Nat.beq i b || !(Xc8 o || Xq o) || (Xa4 bs i a && Xa4 bs i b)))
def XaF (l:List Oper) (i:Nat):Nat:=(l.zipIdx.filter fun (o,j)=>XaC l j o && Xa4 (bef l []) j i).length
def XaR (l:List Oper) (i:Nat):Nat:=(l.zipIdx.filter fun (o,j)=>XaC l j o && !Xa4 (bef l []) i j).length
def XbC (l:List Oper) (vals:List PV) (i:Nat) (o:Oper):Option Bool:=match o.guard with
  | none=>some true
  | some (j,want)=>match Nat.blt j i,vals[j]?,l[j]? with
    | true,some (.v x),some oj=>match oj.dst with
      | none=>none
      | some _=>match x with
        | .bool b=>some (b == want)
        | .tuple _=>some false
        | _=>none
    | _,_,_=>none
structure Dr where
  E:Env
  st:St
  Ss:List St
  vals:List PV
  fk:Nat
def Xjh (T:Tab) (call:XdJ) (rnd:XkY) (l:List Oper) (i:Nat) (o:Oper) (d:Dr):Bool→Option (PV × St × List St × Nat)
  | false=>match o.dst with
    | none=>none
    | some _=>match XaC l i o with
      | true=>some (.v undef,d.st,d.Ss++[d.st],d.fk)
      | false=>some (.v undef,d.st,d.Ss,d.fk)
  | true=>match XaU l i with
    | true=>match XcY T o d.fk with
      | some p=>some (p,d.st,d.Ss,d.fk+1)
      | none=>none
    | false=>match XkX T call rnd o (XK o d.E) d.st with
      | none=>none
      | some (p,s')=>match XaC l i o with
        | true=>some (p,s',d.Ss++[s'],d.fk)
        | false=>some (p,d.st,d.Ss,d.fk)
def Xqe (n:Nat) (o:Oper) (d:Dr):Option (PV × St × List St × Nat)→Option Dr
  | none=>none
  | some (p,st,Ss,fk)=>match XsW n d.E o p with
    | none=>none
    | some E'=>some ⟨E',st,Ss,d.vals++[p],fk⟩
def Xgp (T:Tab) (call:XdJ) (rnd:XkY) (n:Nat) (l:List Oper) (i:Nat) (o:Oper) (d:Dr):Option Dr :=
  match XbC l d.vals i o with
  | none=>none
  | some w=>Xqe n o d (Xjh T call rnd l i o d w)
def Xhd (T:Tab) (call:XdJ) (rnd:XkY) (n:Nat) (l:List Oper):Nat→List Oper→Dr→Option Dr
  | _,[],d=>some d
  | i,o::r,d=>match Xgp T call rnd n l i o d with
    | none=>none
    | some d'=>Xhd T call rnd n l (i+1) r d'
def Xua:Value→Value→Bool
  | .bool a,.bool b=>a == b
  | .int j a,.int k b=>decide (j=k) && decide (a=b)
  | .string a,.string b=>decide (a=b)
  | .pointer none,.pointer none=>true
  | .slice none a b,.slice none c d=>Nat.beq a c && Nat.beq b d
  | .map none,.map none=>true
  | .nilFunc,.nilFunc=>true
  | _,_=>false
def Xru:PV→PV→Bool
  | .v x,.v y=>Xua x y
  | .ptr a b,.ptr c d=>Nat.beq a c && Nat.beq b d
  | .sl a b c d,.sl a' b' c' d'=>Nat.beq a a' && Nat.beq b b' && Nat.beq c c' && Nat.beq d d'
  | .sx a b c d,.sx a' b' c' d'=>Nat.beq a a' && Nat.beq b b' && Nat.beq c c' && Nat.beq d d'
  | .yld a,.yld b=>Nat.beq a b
  | .mp a,.mp b=>Nat.beq a b
  | _,_=>false
def Xnv:List PV→List PV→Bool
  | [],[]=>true
  | a::x,b::y=>Xru a b && Xnv x y
  | _,_=>false
def XBm:PV→PV→Bool
  | .agg x,.agg y=>Xnv x y
  | .fn (.func f) x,.fn (.func g) y=>Nat.beq f g && Xnv x y
  | a,b=>Xru a b
def Xsv (s:St) (id:Nat) (b:Blk):Bool:=match s.H.get id with
  | some c=>c.own && Nat.beq c.elem b.elem && Xnv c.cells b.cells
  | _=>false
def Xqs (f:St→Bool) (Ss:List St):Nat→Nat→Bool
  | _,0=>true
  | lo,k+1=>match Ss[lo]? with
    | some s=>f s && Xqs f Ss (lo+1) k
    | none=>false
def Xef (T:Tab) (l:List Oper) (Ss:List St) (vals:List PV):Nat→List Oper→List PV→Nat→Env→Bool
  | _,[],_,_,_=>true
  | i,o::r,p::ps,fk,E =>
    (match XbC l vals i o with
      | some true=>match XaU l i with
        | true=>match XcZ T o (XK o E) with
          | some b=>Xqs (fun s=>Xsv s fk b) Ss (XaF l i) (XaR l i+1 - XaF l i)
          | none=>false
        | false=>match Xc8 o with
          | true=>Xqs (fun s=>match evO T o (XK o E) s with | some (q,_)=>XBm q p | none=>false) Ss (XaF l i) (XaR l i+1 - XaF l i)
          | false=>true
      | _=>true) &&
    Xef T l Ss vals (i+1) r ps (if XaU l i then fk+1 else fk) (match o.dst with | some d=>E.put d p | none=>E)
  | _,_::_,[],_,_=>false
def XeF (l:List Oper):Option (Nat × Nat) :=
  match ((l.zipIdx.filter fun (o,i)=>XaC l i o).map (·.2)).reverse with
  | b::a::_=>match Xa4 (bef l []) a b with
    | true=>none
    | false=>some (a,b)
  | _=>none
def X3:List Oper→List PV→Env→Env
  | o::os,p::ps,E=>X3 os ps (match o.dst with | some d=>E.put d p | none=>E)
  | _,_,E=>E
def Xes (o:Oper) (E:Env):Option Nat:=match o.guard with
  | some _=>none
  | none=>match o.op with
    | .store _ x _=>match E.ev x with
      | some (.ptr i _)=>some i
      | _=>none
    | _=>none
def XsQ (l:List Oper) (vals:List PV) (E:Env):Option (Nat × Nat)→Bool
  | none=>true
  | some (a,b)=>match l[a]?,l[b]? with
    | some oa,some ob=>match Xes oa (XK oa (X3 (l.take a) (vals.take a) E)),Xes ob (XK ob (X3 (l.take b) (vals.take b) E)) with
      | some i,some j=>!Nat.beq i j
      | _,_=>false
    | _,_=>false
def Xp0 (T:Tab) (call:XdJ) (rnd:XkY) (n:Nat) (l:List Oper) (E:Env) (s:St):Option (Env × St) :=
  match XfN l (XeF l),Xfj T l s 0 E l with
  | true,some bs =>
    let s0:St:={ s with H:=bs.foldl (fun h b=>h.push (some b)) s.H }
    match Xhd T call rnd n l 0 l ⟨E,s0,[s0],[],s.H.n⟩ with
    | none=>none
    | some d=>match Xef T l d.Ss d.vals 0 l d.vals s.H.n E && XsQ l d.vals E (XeF l) with
      | true=>some (d.E,d.st)
      | false=>none
  | _,_=>none
end Go.Ev
namespace Go.Ev
open Go.RowKit
def XsV (T:Tab) (E:Env) (H:HP Blk):ResultVar→Option PV
  | .tmp t=>E.get t
  | .cell a t=>match T.ti t,E.get a with
    | some i,some q=>XrM i.desc i.size H q
    | _,_=>none
def XdW (T:Tab) (E:Env) (H:HP Blk):List ResultVar→Option (List PV)
  | []=>some []
  | r::rs=>match XsV T E H r,XdW T E H rs with
    | some p,some ps=>some (p::ps)
    | _,_=>none
def XqM:List PV→PV
  | [p]=>p
  | ps=>.tup ps
def Xft:List Nat→St→Option St
  | [],s=>some s
  | d::ds,s=>match s.X[d]? with
    | some (.dfr true)=>Xft ds { s with X:=s.X.set d (.dfr false) }
    | _=>none
structure Ev where
  code:Cx→Code→Env→List Nat→St→Option Res
  call:XdJ
def Xjb (id:Nat):Option Res→Option Res
  | some (.exit i,E,D,s)=>match Nat.beq i id with
    | true=>some (.normal,E,D,s)
    | false=>some (.exit i,E,D,s)
  | r=>r
def XdG (T:Tab) (I:Ev) (cx:Cx) (c:Code) (E:Env) (D:List Nat) (s:St):Option Res :=
  match c with
  | .skip=>some (.normal,E,D,s)
  | .region _ ops false=>match Xkp T I.call (Xg4 I.code) cx.n ops.toList ops.toList E s with
    | some (E',s')=>some (.normal,E',D,s')
    | none=>none
  | .region _ ops true=>match Xp0 T I.call (Xg4 I.code) cx.n ops.toList E s with
    | some (E',s')=>some (.normal,E',D,s')
    | none=>none
  | .seq a b=>match I.code cx a E D s with
    | some (.normal,E',D',s')=>I.code cx b E' D' s'
    | r=>r
  | .cond x a b=>match E.ev x with
    | some (.v (.bool true))=>I.code cx a E D s
    | some (.v (.bool false))=>I.code cx b E D s
    | _=>none
  | .block id b=>Xjb id (I.code cx b E D s)
  | .loop b=>match I.code cx b E D s with
    | some (.normal,E',D',s')=>I.code cx (.loop b) E' D' s'
    | r=>r
  | .rangeFunc g ps a b=>XlB I.call I.code cx g ps a b E D s
  | .exit id=>some (.exit id,E,D,s)
  | .ret=>some (.ret,E,D,s)
  | _=>none
def XmL (T:Tab) (fn:Func):Option Res→Option (PV × St)
  | some (.exit _,_)=>none
  | some (_,E,D,s)=>match Xft D s with
    | some s'=>match XdW T E s'.H fn.results.toList with
      | some ps=>some (XqM ps,s')
      | none=>none
    | none=>none
  | none=>none
def Xjr (T:Tab) (I:Ev) (g:FuncId) (args:List PV) (s:St):Option (PV × St) :=
  match T.fn g with
  | some fn=>match fn.body with
    | some c=>match Nat.ble args.length fn.ntmps with
      | true=>XmL T fn (I.code ⟨fn.ntmps,none,g⟩ c (XbF 0 args) [] s)
      | false=>none
    | none=>none
  | none=>none
def evN (T:Tab):Nat→Ev
  | 0=>⟨fun _ _ _ _ _=>none,fun _ _ _=>none⟩
  | n+1=>⟨XdG T (evN T n),Xjr T (evN T n)⟩
end Go.Ev
