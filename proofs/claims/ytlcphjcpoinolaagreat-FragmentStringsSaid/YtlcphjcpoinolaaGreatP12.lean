/- Part of the proof: the walk over the program and its laws: Da Fa. -/
import Derived.Laws.StructEq
import Derived.Test.YtlcphjcpoinolaaGreatP0
import Derived.Test.YtlcphjcpoinolaaGreatP4
import Derived.Test.YtlcphjcpoinolaaGreatP3
set_option linter.unusedVariables false
namespace Go.Proofs.YtlcphjcpoinolaaGreat
open Go.RowKit Go.Th
def I (n:Int):PV:=.v (.int .i64 n)
def B (b:Bool):PV:=.v (.bool b)
def S (b:ByteArray):PV:=.v (.string b)
theorem Xe (n:Int):Xi (I n):=Xi.v _
theorem XcJ (b:Bool):Xi (B b):=Xi.v _
theorem XX (b:ByteArray):Xi (S b):=Xi.v _
def XaK {α:Type} (enc:α→List PV) (sz:Nat) (l:List α):PV:=.tr (l.flatMap enc) l.length sz
theorem XaT {α:Type} {enc:α→List PV} {sz:Nat} {l:List α} (h:∀ x ∈ l,∀ c ∈ enc x,Xi c):Xi (XaK enc sz l):=Xi.tr fun c hc=>by
  obtain ⟨x,hx,hc⟩:=List.mem_flatMap.1 hc
  exact h x hx c hc
structure Prp where
  key:Int
  val:Int
structure Dl where
  rev:Int
  move:Int
structure Lyr where
  rev:Int
  key:Int
  before:Int
  had:Bool
structure Head where
  props:List Prp
  ins:Int
  move:Int
  dels:List Dl
  lyrs:List Lyr
mutual
inductive Item where
  | mk (kind code id:Int) (text:ByteArray) (head:Head) (flow:List Item) (rows:List Row)
inductive Row where
  | mk (head:Head) (cells:List Cell)
inductive Cell where
  | mk (id:Int) (head:Head) (flow:List Item)
end
structure Style where
  id:Int
  kind:Int
  name:ByteArray
  base:Int
  next:Int
  props:List Prp
structure Level where
  format:Int
  start:Int
  template:ByteArray
  restart:Int
structure Lst where
  id:Int
  levels:List Level
structure Comment where
  id:Int
  parent:Int
  author:ByteArray
  time:Int
  text:ByteArray
  done:Bool
structure Var where
  name:ByteArray
  value:ByteArray
structure Rev where
  id:Int
  author:ByteArray
  time:Int
structure Sets where
  styles:List Style
  lists:List Lst
  comments:List Comment
  vars:List Var
structure Doc where
  flow:List Item
  fin:Head
  revs:List Rev
  sets:Sets
def Xa1 (x:Prp):List PV:=[I x.key,I x.val]
def Xdc (x:Dl):List PV:=[I x.rev,I x.move]
def XaD (x:Lyr):List PV:=[I x.rev,I x.key,I x.before,B x.had]
def Xn (l:List Prp):PV:=XaK Xa1 2 l
def Xy (l:List Dl):PV:=XaK Xdc 2 l
def Xx (l:List Lyr):PV:=XaK XaD 4 l
def XN (h:Head):List PV:=[Xn h.props,I h.ins,I h.move,Xy h.dels,Xx h.lyrs]
mutual
def Xl:Item→List PV
  | .mk k c i t h f r=>[I k,I c,I i,S t,Xn h.props,I h.ins,I h.move,Xy h.dels,Xx h.lyrs,.tr (Xc7 f) f.length 11,.tr (Xe9 r) r.length 6]
def Xc7:List Item→List PV
  | []=>[]
  | x::l=>Xl x++Xc7 l
def XS:Row→List PV
  | .mk h c=>[Xn h.props,I h.ins,I h.move,Xy h.dels,Xx h.lyrs,.tr (XdP c) c.length 7]
def Xe9:List Row→List PV
  | []=>[]
  | x::l=>XS x++Xe9 l
def XB:Cell→List PV
  | .mk i h f=>[I i,Xn h.props,I h.ins,I h.move,Xy h.dels,Xx h.lyrs,.tr (Xc7 f) f.length 11]
def XdP:List Cell→List PV
  | []=>[]
  | x::l=>XB x++XdP l
end
def Xk (l:List Item):PV:=XaK Xl 11 l
def X7 (l:List Row):PV:=XaK XS 6 l
def Xau (l:List Cell):PV:=XaK XB 7 l
theorem Xfa:∀ l,Xc7 l=l.flatMap Xl
  | []=>rfl
  | x::l=>by rw [Xc7,Xfa l];rfl
theorem Xiv:∀ l,Xe9 l=l.flatMap XS
  | []=>rfl
  | x::l=>by rw [Xe9,Xiv l];rfl
theorem Xhz:∀ l,XdP l=l.flatMap XB
  | []=>rfl
  | x::l=>by rw [XdP,Xhz l];rfl
theorem XK (k c i:Int) (t:ByteArray) (h:Head) (f:List Item) (r:List Row) :
    Xl (.mk k c i t h f r)=[I k,I c,I i,S t,Xn h.props,I h.ins,I h.move,Xy h.dels,Xx h.lyrs,Xk f,X7 r]:=by
  rw [Xl,Xfa,Xiv];rfl
theorem X2 (h:Head) (c:List Cell):XS (.mk h c)=[Xn h.props,I h.ins,I h.move,Xy h.dels,Xx h.lyrs,Xau c]:=by
  rw [XS,Xhz];rfl
theorem XZ (i:Int) (h:Head) (f:List Item):XB (.mk i h f)=[I i,Xn h.props,I h.ins,I h.move,Xy h.dels,Xx h.lyrs,Xk f]:=by
  rw [XB,Xfa];rfl
theorem XU (x:Item):(Xl x).length=11:=by cases x;rw [XK];rfl
theorem XaX (x:Row):(XS x).length=6:=by cases x;rw [X2];rfl
theorem XaP (x:Cell):(XB x).length=7:=by cases x;rw [XZ];rfl
def Xt (x:Style):List PV:=[I x.id,I x.kind,S x.name,I x.base,I x.next,Xn x.props]
def Xbj (x:Level):List PV:=[I x.format,I x.start,S x.template,I x.restart]
def Xha (l:List Level):PV:=XaK Xbj 4 l
def XaE (x:Lst):List PV:=[I x.id,Xha x.levels]
def Xar (x:Comment):List PV:=[I x.id,I x.parent,S x.author,I x.time,S x.text,B x.done]
def Xc6 (x:Var):List PV:=[S x.name,S x.value]
def Xcn (x:Rev):List PV:=[I x.id,S x.author,I x.time]
def XL (l:List Style):PV:=XaK Xt 6 l
def Xdk (l:List Lst):PV:=XaK XaE 2 l
def X9 (l:List Comment):PV:=XaK Xar 6 l
def Xds (l:List Var):PV:=XaK Xc6 2 l
def XdA (l:List Rev):PV:=XaK Xcn 3 l
def XaW (s:Sets):List PV:=[XL s.styles,Xdk s.lists,X9 s.comments,Xds s.vars]
def X3 (d:Doc):List PV:=[Xk d.flow,Xn d.fin.props,I d.fin.ins,I d.fin.move,Xy d.fin.dels,Xx d.fin.lyrs,XdA d.revs,XL d.sets.styles,Xdk d.sets.lists,X9 d.sets.comments,Xds d.sets.vars]
theorem XT (l:List Prp):Xi (Xn l):=XaT fun x _=>Xa (Xe _) (Xa (Xe _) Xp)
theorem XbL (l:List Dl):Xi (Xy l):=XaT fun x _=>Xa (Xe _) (Xa (Xe _) Xp)
theorem XbJ (l:List Lyr):Xi (Xx l):=XaT fun x _=>Xa (Xe _) (Xa (Xe _) (Xa (Xe _) (Xa (XcJ _) Xp)))
theorem XbK (l:List Level):Xi (Xha l):=XaT fun x _=>Xa (Xe _) (Xa (Xe _) (Xa (XX _) (Xa (Xe _) Xp)))
theorem XI (l:List Style):Xi (XL l):=XaT fun x _=>Xa (Xe _) (Xa (Xe _) (Xa (XX _) (Xa (Xe _) (Xa (Xe _) (Xa (XT _) Xp)))))
theorem XaL (l:List Lst):Xi (Xdk l):=XaT fun x _=>Xa (Xe _) (Xa (XbK _) Xp)
theorem XaM (l:List Comment):Xi (X9 l):=XaT fun x _=>Xa (Xe _) (Xa (Xe _) (Xa (XX _) (Xa (Xe _) (Xa (XX _) (Xa (XcJ _) Xp)))))
theorem Xb8 (l:List Var):Xi (Xds l):=XaT fun x _=>Xa (XX _) (Xa (XX _) Xp)
theorem Xa9 (l:List Rev):Xi (XdA l):=XaT fun x _=>Xa (Xe _) (Xa (XX _) (Xa (Xe _) Xp))
theorem Xah (h:Head):∀ c ∈ XN h,Xi c:=Xa (XT _) (Xa (Xe _) (Xa (Xe _) (Xa (XbL _) (Xa (XbJ _) Xp))))
mutual
theorem Xbq:∀ x,∀ c ∈ Xl x,Xi c
  | .mk k c i t h f r=>by
    rw [Xl]
    exact Xa (Xe _) (Xa (Xe _) (Xa (Xe _) (Xa (XX _) (Xa (XT _) (Xa (Xe _) (Xa (Xe _) (Xa (XbL _) (Xa (XbJ _)
      (Xa (Xi.tr (XeY f)) (Xa (Xi.tr (Xh5 r)) Xp))))))))))
theorem XeY:∀ l,∀ c ∈ Xc7 l,Xi c
  | []=>fun c hc=>by rw [Xc7] at hc;cases hc
  | x::l=>fun c hc=>by
    rw [Xc7] at hc
    rcases List.mem_append.1 hc with h | h
    · exact Xbq x c h
    · exact XeY l c h
theorem Xbw:∀ x,∀ c ∈ XS x,Xi c
  | .mk h c=>by
    rw [XS]
    exact Xa (XT _) (Xa (Xe _) (Xa (Xe _) (Xa (XbL _) (Xa (XbJ _) (Xa (Xi.tr (XgQ c)) Xp)))))
theorem Xh5:∀ l,∀ c ∈ Xe9 l,Xi c
  | []=>fun c hc=>by rw [Xe9] at hc;cases hc
  | x::l=>fun c hc=>by
    rw [Xe9] at hc
    rcases List.mem_append.1 hc with h | h
    · exact Xbw x c h
    · exact Xh5 l c h
theorem Xbr:∀ x,∀ c ∈ XB x,Xi c
  | .mk i h f=>by
    rw [XB]
    exact Xa (Xe _) (Xa (XT _) (Xa (Xe _) (Xa (Xe _) (Xa (XbL _) (Xa (XbJ _) (Xa (Xi.tr (XeY f)) Xp))))))
theorem XgQ:∀ l,∀ c ∈ XdP l,Xi c
  | []=>fun c hc=>by rw [XdP] at hc;cases hc
  | x::l=>fun c hc=>by
    rw [XdP] at hc
    rcases List.mem_append.1 hc with h | h
    · exact Xbr x c h
    · exact XgQ l c h
end
theorem XF (l:List Item):Xi (Xk l):=XaT fun x _=>Xbq x
theorem Xb9 (l:List Row):Xi (X7 l):=XaT fun x _=>Xbw x
theorem XeZ (l:List Cell):Xi (Xau l):=XaT fun x _=>Xbr x
noncomputable def eqv {α:Type} (a b:α):Bool:=@decide (a=b) (Classical.propDecidable _)
theorem XaB {α:Type} {a b:α}:eqv a b=true↔a=b:=by unfold eqv;exact @decide_eq_true_iff _ (Classical.propDecidable _)
theorem XbA {α:Type} (a:α):eqv a a=true:=XaB.2 rfl
theorem XaC {α:Type} {a b:α} (h:a≠b):eqv a b=false:=by
  cases e:eqv a b with
  | false=>rfl
  | true=>exact absurd (XaB.1 e) h
theorem Xhx (a b:Int):decide (a=b)=eqv a b:=by rw [Bool.eq_iff_iff,XaB,decide_eq_true_iff]
theorem XnT {a b:ByteArray} (h:a.toList=b.toList):a=b:=by
  rw [ByteArray.toList_eq,ByteArray.toList_eq] at h
  obtain ⟨⟨x⟩⟩:=a
  obtain ⟨⟨y⟩⟩:=b
  simp only at h
  subst h;rfl
theorem Xeq (a b:ByteArray):(a.toList == b.toList)=eqv a b:=by
  rw [Bool.eq_iff_iff,XaB]
  simp only [beq_iff_eq]
  exact ⟨XnT,fun h=>by rw [h]⟩
theorem Xcr {α:Type} {l m:List α} (h:l.length≠m.length):eqv l m=false:=XaC fun e=>h (by rw [e])
theorem XbB {α:Type} {l m:List α} {i:Nat} {x y:α} (hx:l[i]?=some x) (hy:m[i]?=some y):eqv (l.drop i) (m.drop i)=(eqv x y && eqv (l.drop (i+1)) (m.drop (i+1))):=by
  obtain ⟨l1,e1⟩:=List.getElem?_eq_some_iff.1 hx
  obtain ⟨l2,e2⟩:=List.getElem?_eq_some_iff.1 hy
  rw [List.drop_eq_getElem_cons l1,List.drop_eq_getElem_cons l2,e1,e2,Bool.eq_iff_iff,Bool.and_eq_true,XaB,XaB,XaB,List.cons.injEq]
theorem Xcs {α:Type} {l m:List α} {i:Nat} (h1:i=l.length) (h2:l.length=m.length):eqv (l.drop i) (m.drop i)=true:=by
  subst h1
  rw [List.drop_length,h2,List.drop_length];exact XbA _
theorem Xww (a b:Prp):eqv a b=(eqv a.key b.key && eqv a.val b.val):=by
  cases a;cases b;rw [Bool.eq_iff_iff];simp only [Bool.and_eq_true,XaB,Prp.mk.injEq]
theorem XAE (a b:Dl):eqv a b=(eqv a.rev b.rev && eqv a.move b.move):=by
  cases a;cases b;rw [Bool.eq_iff_iff];simp only [Bool.and_eq_true,XaB,Dl.mk.injEq]
theorem Xwx (a b:Lyr):eqv a b=(eqv a.rev b.rev && eqv a.key b.key && eqv a.before b.before && eqv a.had b.had):=by
  cases a;cases b;rw [Bool.eq_iff_iff];simp only [Bool.and_eq_true,XaB,Lyr.mk.injEq,and_assoc]
theorem Xsk (a b:Head):eqv a b=(eqv a.props b.props && eqv a.ins b.ins && eqv a.move b.move && eqv a.dels b.dels && eqv a.lyrs b.lyrs):=by
  cases a;cases b;rw [Bool.eq_iff_iff];simp only [Bool.and_eq_true,XaB,Head.mk.injEq,and_assoc]
theorem Xqq (a b:Style):eqv a b=(eqv a.id b.id && eqv a.kind b.kind && eqv a.name b.name && eqv a.base b.base && eqv a.next b.next && eqv a.props b.props):=by
  cases a;cases b;rw [Bool.eq_iff_iff];simp only [Bool.and_eq_true,XaB,Style.mk.injEq,and_assoc]
theorem Xqr (a b:Level):eqv a b=(eqv a.format b.format && eqv a.start b.start && eqv a.template b.template && eqv a.restart b.restart):=by
  cases a;cases b;rw [Bool.eq_iff_iff];simp only [Bool.and_eq_true,XaB,Level.mk.injEq,and_assoc]
theorem Xwy (a b:Lst):eqv a b=(eqv a.id b.id && eqv a.levels b.levels):=by
  cases a;cases b;rw [Bool.eq_iff_iff];simp only [Bool.and_eq_true,XaB,Lst.mk.injEq]
theorem Xl9 (a b:Comment):eqv a b=(eqv a.id b.id && eqv a.parent b.parent && eqv a.author b.author && eqv a.time b.time && eqv a.text b.text && eqv a.done b.done):=by
  cases a;cases b;rw [Bool.eq_iff_iff];simp only [Bool.and_eq_true,XaB,Comment.mk.injEq,and_assoc]
theorem Xwt (a b:Var):eqv a b=(eqv a.name b.name && eqv a.value b.value):=by
  cases a;cases b;rw [Bool.eq_iff_iff];simp only [Bool.and_eq_true,XaB,Var.mk.injEq]
theorem Xwv (a b:Rev):eqv a b=(eqv a.id b.id && eqv a.author b.author && eqv a.time b.time):=by
  cases a;cases b;rw [Bool.eq_iff_iff];simp only [Bool.and_eq_true,XaB,Rev.mk.injEq,and_assoc]
theorem Xwz (a b:Doc):eqv a b=(eqv a.flow b.flow && eqv a.fin b.fin && eqv a.revs b.revs && eqv a.sets.styles b.sets.styles && eqv a.sets.lists b.sets.lists && eqv a.sets.comments b.sets.comments && eqv a.sets.vars b.sets.vars):=by
  obtain ⟨_,_,_,⟨_,_,_,_⟩⟩:=a;obtain ⟨_,_,_,⟨_,_,_,_⟩⟩:=b;rw [Bool.eq_iff_iff];simp only [Bool.and_eq_true,XaB,Doc.mk.injEq,Sets.mk.injEq,and_assoc]
theorem Xsj (k c i k' c' i':Int) (t t':ByteArray) (h h':Head) (f f':List Item) (r r':List Row):eqv (Item.mk k c i t h f r) (Item.mk k' c' i' t' h' f' r')=(eqv k k' && eqv c c' && eqv i i' && eqv t t' && eqv h h' && eqv f f' && eqv r r'):=by
  rw [Bool.eq_iff_iff];simp only [Bool.and_eq_true,XaB,Item.mk.injEq,and_assoc]
theorem Xwu (h h':Head) (c c':List Cell):eqv (Row.mk h c) (Row.mk h' c')=(eqv h h' && eqv c c'):=by
  rw [Bool.eq_iff_iff];simp only [Bool.and_eq_true,XaB,Row.mk.injEq]
theorem Xsl (i i':Int) (h h':Head) (f f':List Item):eqv (Cell.mk i h f) (Cell.mk i' h' f')=(eqv i i' && eqv h h' && eqv f f'):=by
  rw [Bool.eq_iff_iff];simp only [Bool.and_eq_true,XaB,Cell.mk.injEq,and_assoc]
theorem Xc:Has [] []:=Has.nil []
theorem Xbk {P:Program} {f:FuncId} {fn:Func} {args:List PV} {Q:PV→Prop} {cells:List PV} {len sz:Nat} (j:Nat) (hj:args[j]?=some (.tr cells len sz)) (hf:P.funcs[f]?=some fn) (hn:(fn.name == "runtime.NumGoroutine")=false) (hb:fn.body.isNone=false)
    (k:len≤9223372036854775807→Iso P f args Q):Iso P f args Q:=by
  refine ⟨⟨fn,hf,hn,hb⟩,fun m w vals h1 h2 h3 hr=>?_⟩
  have h:=hr.2 j _ hj
  have hl:len≤maxLen:=by
    generalize vals.getD j undef=v at h
    cases h with
    | tr f a b c d e g=>omega
    | tr0 a b=>exact Nat.zero_le _
    | trn=>exact Nat.zero_le _
  exact (k (by simp only [maxLen] at hl;omega)).2 m w vals h1 h2 h3 hr
section
variable {P:Program} {o:Oper} {E:Env} {H:Xh}
theorem Xuu {P:Program} {t:TypeId} {x y:Operand} (w:World) (a b:ByteArray):(do eqGuard .eql t x y (.string a) (.string b);binOp .eql t (.string a) (.string b):Sem Value).run P w=.ok (.bool (a.toList == b.toList)) w:=rfl
theorem XwW {t ty:TypeId} {x y:Operand} {a b:ByteArray} (ho:o.op=.binOp .eql t x y ty) (hx:E.ev x=some (.v (.string a))) (hy:E.ev y=some (.v (.string b))):OpV P o E H (.v (.bool (a.toList == b.toList))) :=
  Xab ho hx hy rfl rfl (fun w=>Xuu w a b) rfl
end
theorem Xi8 {l:List Item} {i:Nat} {k c d:Int} {t:ByteArray} {h:Head} {f:List Item} {r:List Row} (hx:l[i]?=some (.mk k c d t h f r)) :
    Xai 11 ((l.flatMap Xl).drop (i * 11))=some [I k,I c,I d,S t,Xn h.props,I h.ins,I h.move,Xy h.dels,Xx h.lyrs,Xk f,X7 r]:=by
  rw [Xu XU l i _ hx,XK]
theorem Xpj {l:List Row} {i:Nat} {h:Head} {c:List Cell} (hx:l[i]?=some (.mk h c)) :
    Xai 6 ((l.flatMap XS).drop (i * 6))=some [Xn h.props,I h.ins,I h.move,Xy h.dels,Xx h.lyrs,Xau c]:=by
  rw [Xu XaX l i _ hx,X2]
theorem Xmv {l:List Cell} {i:Nat} {d:Int} {h:Head} {f:List Item} (hx:l[i]?=some (.mk d h f)) :
    Xai 7 ((l.flatMap XB).drop (i * 7))=some [I d,Xn h.props,I h.ins,I h.move,Xy h.dels,Xx h.lyrs,Xk f]:=by
  rw [Xu XaP l i _ hx,XZ]
end Go.Proofs.YtlcphjcpoinolaaGreat
namespace Go.Proofs.YtlcphjcpoinolaaGreat
open Go.RowKit Go.Th
set_option maxRecDepth 20000
def Xc0 (l:List Int):PV:=.tr (l.map I) l.length 1
theorem XW (l:List Int):Xi (Xc0 l):=Xi.tr fun c hc=>by
  obtain ⟨x,_,rfl⟩:=List.mem_map.1 hc
  exact Xi.v _
theorem Xl8 {l:List Int} {i:Nat} {x:Int} (hx:l[i]?=some x):Xai 1 ((l.map I).drop (i * 1))=some [I x]:=by
  rw [Xaq]
  have hlt:=(List.getElem?_eq_some_iff.1 hx).1
  refine ⟨by simp;omega,?_⟩
  have hd:(l.map I).drop (i * 1)=I x::(l.map I).drop (i+1):=by
    rw [Nat.mul_one,List.drop_eq_getElem_cons (by simpa using hlt)]
    simp [(List.getElem?_eq_some_iff.1 hx).2]
  rw [hd];rfl
theorem Xak {α:Type} {l:List α} {i:Nat} {x:α} (hx:l[i]?=some x):l.drop i=x::l.drop (i+1):=by
  rw [List.drop_eq_getElem_cons (List.getElem?_eq_some_iff.1 hx).1,(List.getElem?_eq_some_iff.1 hx).2]
def inF (n lo hi:Int):Bool:=decide (lo≤n∧n≤hi)
set_option maxHeartbeats 4000000 in
theorem Xct (n lo hi:Int):Iso Tryz.prog 113 [I n,I lo,I hi] (fun p=>p=B (inF n lo hi)):=by
  have hG:=Xc
  refine Xb Tryz.func113 rfl rfl rfl ?_
  unfold inF
  by_cases h1:lo≤n
  · by_cases h2:n≤hi
    · repeat(first|refine Zd1 ?_)
      exact XJ rfl rfl (.refl _) (.v _) (by rw [decide_eq_true ⟨h1,h2⟩];rfl)
    · repeat(first|refine Zd1 ?_)
      exact XJ rfl rfl (.refl _) (.v _) (by rw [decide_eq_false (fun h=>h2 h.2)];rfl)
  · repeat(first|refine Zd1 ?_)
    exact XJ rfl rfl (.refl _) (.v _) (by rw [decide_eq_false (fun h=>h1 h.1)];rfl)
def Xbv (b:Bool) (e:Int):Int:=if b then e else 0
theorem Xbi (b:Bool) (e:Int):Iso Tryz.prog 50 [B b,I e] (fun p=>p=I (Xbv b e)):=by
  have hG:=Xc
  refine Xb Tryz.func50 rfl rfl rfl ?_
  cases b with
  | true =>
    repeat(first|refine Zd1 ?_)
    exact ZE
  | false =>
    repeat(first|refine Zd1 ?_)
    exact ZE
def XaA:List Int→Int
  | []=>0
  | e::l=>if e=0 then XaA l else e
set_option maxHeartbeats 4000000 in
theorem Xbn (l:List Int) (hl:l.length≤1000000):Iso Tryz.prog 45 [Xc0 l] (fun p=>p=I (XaA l)):=by
  have hG:=Xc
  refine Xb Tryz.func45 rfl rfl rfl ?_
  repeat(first|refine Zd1 ?_)
  refine Xg (S:=Nat) (fun i=>[(5,Xc0 l),(6,I l.length),(7,I i)]) (fun i G=>i≤l.length∧XaA l=XaA (l.drop i)∧Has G []) (fun i=>l.length - i) 0
    (.cons rfl (.cons rfl (.cons rfl (.nil _)))) ⟨Nat.zero_le _,by simp,hG⟩ ?_
  clear hG
  rintro i G ⟨hi,hf,hG⟩
  by_cases hil:i < l.length
  · obtain ⟨x,hx⟩:∃ x,l[i]?=some x:=⟨_,List.getElem?_eq_getElem hil⟩
    have hd:=Xak hx
    have hc:=Xl8 hx
    rw [hd,XaA] at hf
    by_cases h0:x=0
    · rw [if_pos h0] at hf
      repeat(first|refine Zd1 ?_|refine ZbE ?_)
      exact Zbj
    · rw [if_neg h0] at hf
      repeat(first|refine Zd1 ?_|refine ZbE ?_)
      exact Za4
  have e0:l.drop i=[]:=List.drop_eq_nil_of_le (by omega)
  rw [e0,XaA] at hf
  repeat(first|refine Zd1 ?_)
  exact Zaf
def XqR (e:Nat→Int):Nat→Nat→Int
  | 0,_=>0
  | k+1,i=>if e i=0 then XqR e k (i+1) else e i
def XmA (e:Nat→Int) (n:Nat):Int:=XqR e n 0
set_option maxHeartbeats 4000000 in
theorem XjL (n:Nat) (g:FuncId) (cap:List PV) (e:Nat→Int) (hn:n≤1000000) (hc:∀ c ∈ cap,Xi c) (h:∀ i,i < n→Iso Tryz.prog g ([I i]++cap) (fun p=>p=I (e i))) :
    Iso Tryz.prog 108 [I n,.fn (.func g) cap] (fun p=>p=I (XmA e n)):=by
  have hG:=Xc
  refine Xb Tryz.func108 rfl rfl rfl ?_
  repeat(first|refine Zd1 ?_)
  refine Xg (S:=Nat) (fun i=>[(1,.fn (.func g) cap),(7,I n),(8,I i)]) (fun i G=>i≤n∧XmA e n=XqR e (n - i) i∧Has G []) (fun i=>n - i) 0
    (.cons rfl (.cons rfl (.cons rfl (.nil _)))) ⟨Nat.zero_le _,rfl,hG⟩ ?_
  clear hG
  rintro i G ⟨hi,hf,hG⟩
  by_cases hil:i < n
  · have hk:=h i hil
    rw [show n - i=(n - (i+1))+1 from by omega,XqR] at hf
    by_cases h0:e i=0
    · rw [if_pos h0] at hf
      rw [h0] at hk
      repeat(first|refine Zd1 ?_|(refine Xr rfl rfl rfl rfl rfl rfl (by decide) hk (TreeL.cons (Xi.v _) hc) ?_;rintro _ rfl))
      exact Zbj
    · rw [if_neg h0] at hf
      generalize e i=x at hk h0 hf
      repeat(first|refine Zd1 ?_|(refine Xr rfl rfl rfl rfl rfl rfl (by decide) hk (TreeL.cons (Xi.v _) hc) ?_;rintro _ rfl))
      exact Za4
  rw [show n - i=0 from by omega,XqR] at hf
  repeat(first|refine Zd1 ?_)
  exact Zaf
end Go.Proofs.YtlcphjcpoinolaaGreat
