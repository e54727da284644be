/- Part of the proof: the walk over the program and its laws: Rs Ib Po. -/
import Derived.Lib.AppendStr
import Derived.Lib.BufferWrite
import Derived.Laws.IdiomStrings
import Derived.Laws.RangeString
import Derived.Laws.Runes
import Derived.Lib.Bytealg
import Derived.Test.YtlcphjcpoinolaaGreatP0
import Derived.Test.YtlcphjcpoinolaaGreatP11
import Derived.Test.YtlcphjcpoinolaaGreatP25
import Derived.Test.YtlcphjcpoinolaaGreatP15
import Derived.Test.YtlcphjcpoinolaaGreatP16
import Derived.Test.YtlcphjcpoinolaaGreatP29
set_option linter.unusedVariables false
namespace Go.Th
open Go.RowKit
section
variable {P:Program} {n:Nat} {Q:QA} {E:Env} {H:Xh} {ops:Array Oper} {rest:List Oper} {o:Oper} {t s e u:TypeId} {L:List (Nat × Blk)}
def Xm5 (b:ByteArray) (pos:Nat):Blk:=⟨[.fn (.func 1) [.v (.string b),.v (.int .i64 (pos:Nat))]],0,true⟩
theorem Xld [hu:HasU P t .string] {x:Operand} {b:ByteArray} (ho:o.op=.range t x) (hx:E.ev x=some (.v (.string b))) :
    OpW P o E H (.it H.length) (H++[some (Xm5 b 0)]):=fun m w ρ hR hρ=>by
  have e1:=XA (hρ x _ hx)
  obtain ⟨a,c⟩:=hR.newObj (Xm5 b 0) (.stringIter b 0) 2 #[.func (.func 1) #[] #[.string b,.int .i64 (0:Nat)]] ⟨b,0,rfl,rfl⟩ (by simp [Xm5]) rfl (fun j c hj=>by
    cases j with
    | zero =>
      simp [Xm5] at hj;subst hj
      exact ⟨_,rfl,Xec.2 (Xbu (.v _ rfl) (Xbu (.v _ rfl) XiG)),rfl⟩
    | succ j=>simp [Xm5] at hj)
  refine ⟨.pointer (some ⟨w.heap.size,0,none⟩),_,_,?_,c,a,.it (b:=w.heap.size) (k:=0) (lim:=1) (by simp)⟩
  simp [execOp,ho,Instr.range,run_underlying hu.u,e1]
theorem Xh9 {m:Mp} {w:World} (hR:R m H w) {it pos:Nat} {b:ByteArray} (hB:H[it]?=some (some (Xm5 b pos))) {v:Value} (hr:Rep m w (.it it) v) :
    ∃ a lim,v=.pointer (some ⟨a,0,none⟩)∧m.blk it=some (a,2,lim)∧lim=1∧w.heap[a]?=some (.stringIter b pos):=by
  cases hr with
  | @it _ a k lim hm =>
    obtain ⟨_,⟨cur,hv,h2,h3,h4⟩,_⟩:=hR.blk it _ a (k+2) lim hB hm
    obtain ⟨x,hx,hrx,_⟩:=h4 0 (.fn (.func 1) [.v (.string b),.v (.int .i64 (pos:Nat))]) rfl
    have hk:k=0:=by
      match k,hv with
      | 0,_=>rfl
      | 1,hv =>
        obtain ⟨_,_,_,_,_,rfl⟩:=hv
        simp at hx;subst hx
        cases hrx
      | k+2,hv =>
        obtain ⟨_,_,_,_,_,_,_,_,_,_,_,he,_⟩:=hv
        cases he
    subst hk
    obtain ⟨b',pos',h1,rfl⟩:=hv
    simp at hx
    subst hx
    have hc:=Xec.1 hrx
    obtain ⟨v1,vs1,e1,r1,hc⟩:=Xa8 hc
    obtain ⟨v2,vs2,e2,r2,hc⟩:=Xa8 hc
    have hvs:vs2=[]:=by simpa using hc.1
    subst hvs;subst e2
    simp only [List.cons.injEq] at e1
    obtain ⟨rfl,rfl,_⟩:=e1
    have a1:=XA r1
    have a2:=XA r2
    injection a1 with a1
    injection a2 with _ a2
    have a2:pos'=pos:=by omega
    subst a1;subst a2
    exact ⟨a,_,rfl,hm,h2.symm,h1⟩
theorem XmC {x:Operand} {it pos:Nat} {b:ByteArray} (ho:o.op=.next x true) (hx:E.ev x=some (.it it)) (hB:H[it]?=some (some (Xm5 b pos))) (hp:pos < b.size) :
    OpW P o E H (.tup [.v (.bool true),.v (.int .i64 (pos:Nat)),.v (.int .i32 ((Utf8.decode b pos).1:Nat))]) (H.set it (some (Xm5 b (pos+(Utf8.decode b pos).2)))):=fun m w ρ hR hρ=>by
  obtain ⟨a,lim,e1,hm,hlim,hh⟩:=Xh9 hR hB (hρ x _ hx)
  have hlt:a < w.heap.size:=(Array.getElem?_eq_some_iff.1 hh).1
  obtain ⟨r1,r2⟩:=hR.rewrite (w':=Xkf w a (.stringIter b (pos+(Utf8.decode b pos).2))) hB rfl hm (cur':=#[.func (.func 1) #[] #[.string b,.int .i64 ((pos+(Utf8.decode b pos).2:Nat):Int)]]) (cs:=[.fn (.func 1) [.v (.string b),.v (.int .i64 ((pos+(Utf8.decode b pos).2:Nat):Int))]])
    XgY rfl rfl rfl (fun j hj=>XfT hj) ⟨_,_,XgZ hlt,rfl⟩ (by simp [hlim]) (by simp [hlim]) (fun j c hj=>by
      cases j with
      | zero =>
        simp at hj;subst hj
        exact ⟨_,rfl,Xec.2 (Xbu (.v _ rfl) (Xbu (.v _ rfl) XiG)),rfl⟩
      | succ j=>simp at hj)
  have hso:(setObj a (.stringIter b (pos+(Utf8.decode b pos).2))).run P w=.ok () (Xkf w a (.stringIter b (pos+(Utf8.decode b pos).2))):=by simp [setObj,Sem.run,hh,Xkf]
  have hgo:(getObj a).run P w=.ok (.stringIter b pos) w:=by simp [getObj,Sem.run,hh]
  refine ⟨.tuple #[.bool true,.int .i64 (pos:Nat),.int .i32 ((Utf8.decode b pos).1:Nat)],m,_,?_,r2,r1,.tup _ rfl (fun j c hj=>?_)⟩
  · simp [execOp,ho,e1,Instr.next,hgo,hp,hso,goInt]
  · match j with
    | 0=>simp at hj;subst hj;exact .v _ rfl
    | 1=>simp at hj;subst hj;exact .v _ rfl
    | 2=>simp at hj;subst hj;exact .v _ rfl
    | j+3=>simp at hj
theorem XmM {x:Operand} {it pos:Nat} {b:ByteArray} (ho:o.op=.next x true) (hx:E.ev x=some (.it it)) (hB:H[it]?=some (some (Xm5 b pos))) (hp:¬ pos < b.size) :
    OpV P o E H (.tup [.v (.bool false)]):=fun m w ρ hR hρ=>by
  obtain ⟨a,lim,e1,hm,hlim,hh⟩:=Xh9 hR hB (hρ x _ hx)
  have hgo:(getObj a).run P w=.ok (.stringIter b pos) w:=by simp [getObj,Sem.run,hh]
  refine ⟨.tuple #[.bool false],?_,.tup _ rfl (fun j c hj=>?_)⟩
  · simp [execOp,ho,e1,Instr.next,hgo,hp]
  · cases j with
    | zero=>simp at hj;subst hj;exact .v _ rfl
    | succ j=>simp at hj
theorem Xfi [hu:HasU P t .string] {d:Nat} {x:Operand} {b:ByteArray} (hG:Has H L) (hg:o.guard=none) (hd:o.dst=some d) (hn:d < n) (ho:o.op=.range t x) (hx:E.ev x=some (.v (.string b)))
    (h:∀ it G,Has G ((it,Xm5 b 0)::L)→wpL P n ops rest Q ((d,.it it)::E) G):wpL P n ops (o::rest) Q E H :=
  XfK hg hd hn (Xld ho hx) (h _ _ (hG.new _))
theorem Xd5 {d:Nat} {x:Operand} {it pos:Nat} {b:ByteArray} (k:Nat) (hG:Has H L) (hg:o.guard=none) (hd:o.dst=some d) (hn:d < n) (ho:o.op=.next x true) (hx:E.ev x=some (.it it)) (hk:L[k]?=some (it,Xm5 b pos)) (hp:pos < b.size)
    (h:∀ G,Has G (L.set k (it,Xm5 b (pos+(Utf8.decode b pos).2)))→wpL P n ops rest Q ((d,.tup [.v (.bool true),.v (.int .i64 (pos:Nat)),.v (.int .i32 ((Utf8.decode b pos).1:Nat))])::E) G):wpL P n ops (o::rest) Q E H :=
  XfK hg hd hn (XmC ho hx (hG.get k it _ hk) hp) (h _ (hG.set hk _))
theorem XmL [hu:HasU P s (.slice e)] [he:HasU P e (.int .u8)] [hd:HasU P t .string] {x:Operand} {id n:Nat} {l:List UInt8} {B:Blk} (hn:n=l.length) (ho:o.op=.convert s t x) (hx:E.ev x=some (.sl id 0 n 1)) (hB:H[id]?=some (some B)) (hc:B.cells=XbP l) (h0:l≠[]) :
    OpV P o E H (.v (.string ⟨l.toArray⟩)):=fun m w ρ hR hρ=>by
  have hr:=hρ x _ hx
  have hlen:0 < l.length:=List.length_pos_iff.2 h0
  generalize hv:ρ x=v at hr
  cases hr with
  | @sl _ _ _ _ b lim cap hm h1 h2 h3 =>
    refine ⟨.string ⟨l.toArray⟩,?_,.v _ rfl⟩
    subst hn
    have hrun:=run_convert_bytes_back (P:=P) w s t e (⟨b,0+0,none⟩:Addr) cap l hu.u he.u hd.u (fun j hj=>by
      obtain ⟨_,⟨cur,c1,c2,c3,c4⟩,_⟩:=hR.blk id _ b 0 lim hB hm
      have hcj:B.cells[j]?=some (.v (.int .u8 (l[j].toNat:Nat))):=by
        rw [hc]
        simp [XbP,List.getElem?_eq_getElem hj]
      obtain ⟨v,hv,hrv,_⟩:=c4 j _ hcj
      have:=XA hrv
      subst this
      have c1:w.heap[b]?=some (.cells cur B.elem.tid (0,0)):=c1
      rw [Addr.add_mk,cell_of_row w b _ cur _ (0,0) c1]
      simpa using hv)
    simp [execOp,ho,hv,hrun]
  | sl0 a=>omega
theorem XmK {k:IntKind} [hu:HasU P s (.int k)] [hd:HasU P t .string] {x:Operand} {r:Int} (ho:o.op=.convert s t x) (hx:E.ev x=some (.v (.int k r))):OpV P o E H (.v (.string (Utf8.encode r))):=fun m w ρ hR hρ=>by
  have e1:=XA (hρ x _ hx)
  refine ⟨.string (Utf8.encode r),?_,.v _ rfl⟩
  simp [execOp,ho,e1,run_convert_int_string (P:=P) w s t k r (by rw [hu.u];rfl) hd.u]
theorem XjM [hu:HasU P t (.slice e)] [hi:HasI P e 1 1 [.int .u8 0]] {x:Operand} {c:Nat} (ho:o.op=.makeSlice t x x) (hx:E.ev x=some (.v (.int .i64 (c:Nat)))) (hc:c≤1000000) :
    OpW P o E H (.sl H.length 0 c 1) (H++[some ⟨List.replicate c (.v (.int .u8 0)),e,true⟩]):=fun m w ρ hR hρ=>by
  have e1:=XA (hρ x _ hx)
  obtain ⟨i,zv,h3,hsz,hby,h4,h5⟩:=hi.i
  have hrun:=run_makeSlice (P:=P) w t e i zv hu.u h3 h4 .i64 .i64 (c:Int) (c:Int) (by omega) (Int.le_refl _) (by rw [hsz];simp;omega) (by rw [hby];omega) (by omega)
  have hcells:madeCells zv.cells ((c:Int).toNat * i.size)=Array.replicate c (.int .u8 0):=by
    rw [hsz]
    have hz1:zv.cells=#[.int .u8 0]:=by apply Array.ext';simpa using h5
    rw [hz1]
    apply Array.ext
    · simp [madeCells]
    · intro j h1 h2
      simp [madeCells]
      rw [Nat.mod_one];rfl
  rw [hcells] at hrun
  obtain ⟨a,b⟩:=hR.new (List.replicate c (.v (.int .u8 0))) e (Array.replicate c (.int .u8 0)) (by simp) (fun j p hj=>by
    rw [List.getElem?_replicate] at hj
    split at hj
    · rename_i hjc
      cases hj
      exact ⟨.int .u8 0,by simp [hjc],.v _ rfl,rfl⟩
    · cases hj)
  refine ⟨_,_,_,by simp [execOp,ho,e1,hrun];rfl,b,a,?_⟩
  exact .sl (lim:=(Array.replicate c (Value.int .u8 0)).size) (by simp) (Nat.le_refl _) (by simp only [maxLen];omega) (by simp)
theorem XmE [hu:HasU P t (.slice e)] [hi:HasI P e 1 1 [.int .u8 0]] {x y:Operand} {id n:Nat} {b:ByteArray} {cs:List PV} (hn:n=b.size) (ho:o.op=.call { callee:=.builtin .copy,args:=#[x,y],argTypes:=#[t,u] }) (hx:E.ev x=some (.sl id 0 n 1)) (hy:E.ev y=some (.v (.string b)))
    (hB:H[id]?=some (some ⟨cs,e,true⟩)) (hl:cs.length=b.size) (h0:1≤b.size):OpW P o E H (.v (.int .i64 (b.size:Nat))) (H.set id (some ⟨XbP b.data.toList,e,true⟩)):=fun m w ρ hR hρ=>by
  have hr:=hρ x _ hx
  have e2:=XA (hρ y _ hy)
  obtain ⟨i,zv,h3,hsz,hby,h4,h5⟩:=hi.i
  generalize hv:ρ x=v at hr
  cases hr with
  | @sl _ _ _ _ a lim cap hm h1 h2 h3' =>
    obtain ⟨_,⟨cur,c1,c2,c3,c4⟩,hk,_⟩:=hR.blk id _ a 0 lim hB hm
    subst hn
    have c1:w.heap[a]?=some (.cells cur e (0,0)):=c1
    have c3:0+cs.length≤lim:=c3
    have hbs:b.data.toList.length=b.size:=by rw [Array.length_toList];rfl
    have hsz2:b.size≤cur.size:=by omega
    have hrun:=Lib.run_copy_row_string (P:=P) w t u o.type e a 0 b.size cap b cur e hu.u (by rw [h3];simp [hsz]) c1 (Nat.le_refl _) (by omega)
    simp only [List.take_zero,List.nil_append,Nat.zero_add] at hrun
    obtain ⟨r1,r2⟩:=hR.rewrite (w':=w.setRow a (Lib.byteCells b.data.toList++cur.toList.drop b.size).toArray) hB rfl hm (cur':=(Lib.byteCells b.data.toList++cur.toList.drop b.size).toArray) (cs:=XbP b.data.toList)
      (by simp [World.setRow]) rfl rfl rfl (fun j hj=>setRow_other w a j _ hj) (setRow_heap w a cur _ e (0,0) c1) (by
        simp only [List.size_toArray,List.length_append,Lib.byteCells_length,List.length_drop,Array.length_toList,hbs];omega) (by rw [XfE,hbs,← c2];exact hsz2) (fun j p hj=>by
        simp only [XbP,List.getElem?_map,Option.map_eq_some_iff] at hj
        obtain ⟨q,hq,rfl⟩:=hj
        have hjl:j < b.data.toList.length:=(List.getElem?_eq_some_iff.1 hq).1
        refine ⟨.int .u8 q.toNat,?_,.v _ rfl,rfl⟩
        simp only [List.getElem?_toArray]
        rw [List.getElem?_append_left (by rw [Lib.byteCells_length];exact hjl)]
        simp [Lib.byteCells,hq])
    refine ⟨.int .i64 (b.size:Nat),m,_,?_,r2,r1,.v _ rfl⟩
    simp [execOp,ho,resolve,invoke,builtin,hv,e2,hrun,goInt]
  | sl0 a=>omega
theorem XBc (m:Mp) (w:World) (b:ByteArray):CR m w (XbP b.data.toList) (Lib.strCells b):=by
  refine ⟨by simp [XbP,Lib.strCells],fun j c hj=>?_⟩
  simp only [XbP,List.getElem?_map,Option.map_eq_some_iff] at hj
  obtain ⟨x,hx,rfl⟩:=hj
  exact ⟨.int .u8 x.toNat,by simp [Lib.strCells,hx],.v _ rfl⟩
theorem XjN {H':Xh} {sz bytes:Nat} {z:List Value} [hu:HasU P t (.slice e)] [hus':HasU P u .string] [hi:HasI P e sz bytes z] {x y:Operand} {p r:PV} {n:Nat} {b0:ByteArray} (hs1:sz=1) (ho:o.op=.call { callee:=.builtin .append,args:=#[x,y],argTypes:=#[t,u] })
    (hx:E.ev x=some p) (hy:E.ev y=some (.v (.string b0))) (hzl:Nat.beq z.length sz=true) (hb0:1≤b0.size) (ha:Xo H e sz p b0.size (XbP b0.data.toList)=some (n,r,H')) (hb:n * bytes≤140737488355328) (h63:n≤9223372036854775807):OpW P o E H r H':=fun m w ρ hR hρ=>by
  obtain ⟨i,zv,h3,hsz,hby,h4,h5⟩:=hi.i
  subst hsz
  have hzs:zv.cells.size=i.size:=by have:=Nat.eq_of_beq_eq_true hzl;rw [← h5] at this;simpa using this
  have ey:=XA (hρ y _ hy)
  have hcr:=XBc m w b0
  have h1:=XqL b0.data.toList
  have hlx:(XbP b0.data.toList).length=b0.size * i.size:=by rw [hs1,hcr.1.symm.trans (Lib.strCells_length b0),Nat.mul_one]
  obtain ⟨k,hk0⟩:∃ k,k=b0.size:=⟨_,rfl⟩
  obtain ⟨xs,hxs⟩:∃ xs,xs=XbP b0.data.toList:=⟨_,rfl⟩
  rw [← hxs,← hk0] at ha
  rw [← hxs] at hcr h1 hlx
  rw [← hk0] at hlx
  have hkp:0 < k:=by omega
  have hp:=hρ x p hx
  generalize hv:ρ x=vx at hp
  have hexec:∀ v' w',(Builtin.append_ #[t,u] o.type #[vx,.string b0]).run P w=.ok v' w'→(execOp ρ o).run P w=.ok (.value v') w':=fun v' w' h=>by
    simp [execOp,ho,resolve,invoke,builtin,ey,hv,h]
  have hmaxn:n≤maxLen:=by simp only [maxLen];omega
  · obtain ⟨us,eus,hus⟩:∃ us,us=Lib.strCells b0∧CR m w xs us:=⟨_,rfl,hcr⟩
    have husl:us.length=k * i.size:=hus.1.trans hlx
    have h1u:∀ u ∈ us,u.oneCell'=true:=fun u hu=>by
      obtain ⟨j,hj⟩:=List.mem_iff_getElem?.1 hu
      have hlt:j < xs.length:=by rw [← hus.1];exact (List.getElem?_eq_some_iff.1 hj).1
      obtain ⟨u',hu',hr⟩:=hus.2 j _ (List.getElem?_eq_getElem hlt)
      rw [hj] at hu';cases hu'
      exact ZbB
    have fresh:∀ (G:Xh) (hG:R m G w),n=k→∀ a,vx=.slice a 0 0→∃ v m' w',(execOp ρ o).run P w=.ok (.value v) w'∧Le m w m' w'∧R m' (G++[some ⟨xs,e,true⟩]) w'∧Rep m' w' (.sl G.length 0 k i.size) v:=fun G hG hnk a hvx=>by
      subst hnk
      have hkb:n * i.bytes≤140737488355328:=by rw [hby];exact hb
      have hcap:n≤grownCap w n 0 e:=grownCap_ge w n 0 e
      have hcm:=grownCap_le_maxLen w n 0 e hmaxn
      obtain ⟨m',g1,g2,g3⟩:=XcS (sz:=i.size) (rest:=(Builtin.zeroCells zv.cells (grownCap w n 0 e - n)).toList) hG hus h1 e hcap hcm (by
        rw [husl,Array.length_toList,size_zeroCells,hzs,← Nat.add_mul];congr 1;omega)
      have harr:(us++(Builtin.zeroCells zv.cells (grownCap w n 0 e - n)).toList).toArray=us.toArray++Builtin.zeroCells zv.cells (grownCap w n 0 e - n):=by
        apply Array.ext';simp
      rw [harr] at g1 g2 g3
      refine ⟨_,m',_,?_,g1,g2,g3⟩
      cases a with
      | none =>
        have hg:=run_append_nil_string (P:=P) w t u o.type e i zv hu.u hus'.u h3 h4 b0 (by omega) (by omega) (by rw [← hk0];omega)
        refine hexec _ _ ?_
        rw [hvx,hg,hk0,eus]
        have e1:(b0.data.map fun b=>Value.int .u8 b.toNat)=(Lib.strCells b0).toArray:=by
          apply Array.ext'
          simp [Lib.strCells]
        rw [e1]
      | some a =>
        have hg:=Lib.run_append_grow_string (P:=P) w t u o.type e i zv hu.u hus'.u h3 h4 a 0 0 [] (by simp) (by simp) b0 (by omega) (by omega) (growslice_fits (by omega) (by rw [← hk0];simpa using hkb))
        simp only [Nat.zero_add] at hg
        rw [← hk0,← eus] at hg
        refine hexec _ _ ?_
        rw [hvx,hg]
        simp
    cases hp with
    | v _ hv' =>
      cases vx with
      | slice a n' c =>
        cases a with
        | none =>
          cases n' with
          | zero =>
            cases c with
            | zero =>
              simp only [Xo] at ha
              cases ha
              exact fresh H hR rfl none rfl
            | succ c=>simp [Xo] at ha
          | succ n'=>simp [Xo] at ha
        | some a=>simp [Xo] at ha
      | _=>simp [Xo] at ha
    | @sl0 id off sz' a =>
      cases off with
      | succ off=>simp [Xo] at ha
      | zero =>
        simp only [Xo] at ha
        split at ha
        · split at ha
          · rename_i B hB
            split at ha
            · rename_i hc
              simp only [Bool.and_eq_true] at hc
              have hlen:=Nat.eq_of_beq_eq_true hc.2
              have hB0:B.cells=[]:=List.eq_nil_of_length_eq_zero (by simpa using hlen)
              cases ha
              rw [hB0]
              have:=fresh (H.set id none) (hR.kill id) (by omega) a rfl
              simpa using this
            · cases ha
          · cases ha
        · cases ha
    | @sl id off len sz' b lim cap hm a1 a2 a3 =>
      cases off with
      | succ off=>simp [Xo] at ha
      | zero =>
        simp only [Xo] at ha
        split at ha
        · rename_i hbq
          have hbq:=Nat.eq_of_beq_eq_true hbq
          split at ha
          · rename_i B hB
            split at ha
            · rename_i hc
              simp only [Bool.and_eq_true] at hc
              obtain ⟨⟨hown,hel⟩,hlen⟩:=hc
              have hel:=Nat.eq_of_beq_eq_true hel
              have hlen:=Nat.eq_of_beq_eq_true hlen
              cases ha
              subst hbq
              obtain ⟨_,⟨cur,c1,c2,c3,c4⟩,hk,_⟩:=hR.blk id B b 0 lim hB hm
              have c1:w.heap[b]?=some (.cells cur B.elem.tid (0,0)):=c1
              rw [hel] at c1
              have hcapsz:cap * i.size≤cur.size:=by rw [c2];simpa using a3
              have hlsz:len * i.size≤cur.size:=Nat.le_trans (Nat.mul_le_mul_right _ a1) hcapsz
              have holdl:(cur.toList.take (len * i.size)).length=len * i.size:=by simp;omega
              have holds:CR m w B.cells (cur.toList.take (len * i.size)):=by
                refine ⟨by rw [holdl,hlen],fun j c hj=>?_⟩
                obtain ⟨u,u1,u2,_⟩:=c4 j c hj
                have hjl:j < len * i.size:=by rw [← hlen];exact (List.getElem?_eq_some_iff.1 hj).1
                exact ⟨u,by rw [List.getElem?_take,if_pos hjl];simpa using u1,u2⟩
              have hB1:(B.cells++xs).all XV=true:=by
                rw [List.all_append,h1,Bool.and_true]
                refine List.all_eq_true.2 fun c hc=>?_
                obtain ⟨j,hj⟩:=List.mem_iff_getElem?.1 hc
                obtain ⟨u,_,u2,u3⟩:=c4 j c hj
                cases c <;> first | rfl | skip
                · cases u2;exact u3
                · cases u2;exact absurd u3 (by simp [Value.oneCell'])
                · cases u2;exact absurd u3 (by simp [Value.oneCell'])
              have happ:=XiH holds hus
              have hfree:∀ (j:Nat) (C:Blk) (dj lj:Nat),(H.set id none)[j]?=some (some C)→C.own=true→m.blk j≠some (b,dj,lj):=fun j C dj lj hj hoj hmj=>by
                rcases XH hj with ⟨_,e⟩ | ⟨n1,e⟩
                · cases e
                · exact ZbC
              by_cases hroom:len+k≤cap
              ·
                have hr:=Lib.run_append_room_string (P:=P) w t u o.type e i hu.u hus'.u h3 hs1 b len cap cur c1 b0 (by omega) (by rw [hs1] at hcapsz;omega)
                rw [← eus,← hk0,show cur.toList.take len=cur.toList.take (len * i.size) from by rw [hs1,Nat.mul_one],show cur.toList.drop (len+k)=cur.toList.drop (len * i.size+us.length) from by rw [husl,hs1,Nat.mul_one,Nat.mul_one]] at hr
                have hrow:=setRow_heap w b cur ((cur.toList.take (len * i.size)++us++cur.toList.drop (len * i.size+us.length)).toArray) e (0,0) c1
                have hbk:=hk hown
                obtain ⟨q1,q2⟩:=(hR.kill id).world (w':=w.setRow b ((cur.toList.take (len * i.size)++us++cur.toList.drop (len * i.size+us.length)).toArray)) (by simp [World.setRow]) rfl rfl rfl
                  (fun k' hk'=>setRow_other w b k' _ (fun e=>hbk (e ▸ hk'))) (fun j C bj dj lj hj hmj=>setRow_other w b bj _ (fun e=>by
                    subst e
                    cases hoC:C.own with
                    | true=>exact hfree j C dj lj hj hoC hmj
                    | false =>
                      rcases XH hj with ⟨_,e⟩ | ⟨_,e⟩
                      · cases e
                      · exact hbk (hR.rk _ ((hR.blk j C _ dj lj e hmj).2.2.2 hoC))))
                have hsz2:((cur.toList.take (len * i.size)++us++cur.toList.drop (len * i.size+us.length)).toArray).size=lim:=by
                  have:len * i.size+us.length≤cur.size:=by rw [husl,← Nat.add_mul];exact Nat.le_trans (Nat.mul_le_mul_right _ hroom) hcapsz
                  simp only [List.size_toArray,List.length_append,holdl,List.length_drop,Array.length_toList];omega
                obtain ⟨r1,r2⟩:=q1.add (b:=b) (d:=0) (lim:=lim) ⟨B.cells++xs,e,true⟩ ⟨_,hrow,hsz2,by
                    rw [← hsz2];simp only [List.size_toArray,List.length_append,holdl,hlen,hus.1];omega,fun j c hj=>by
                    obtain ⟨u,u1,u2⟩:=happ.2 j c hj
                    refine ⟨u,?_,u2.mono hR.rk q2,Xbx u2 (List.all_eq_true.1 hB1 c (List.mem_of_getElem? hj))⟩
                    simp only [List.getElem?_toArray,Nat.zero_add]
                    rw [List.getElem?_append_left ((List.getElem?_eq_some_iff.1 u1).1)]
                    exact u1⟩ rfl hbk hfree
                refine ⟨.slice (some ⟨b,0,none⟩) (len+k) cap,_,_,hexec _ _ (by simpa using hr),q2.trans r2,r1,?_⟩
                simp only [List.length_set]
                exact .sl (off:=0) (lim:=lim) (by simp) hroom a2 (by simpa using a3)
              ·
                have holdv:∀ (j:Nat) (v:Value),(cur.toList.take (len * i.size))[j]?=some v→w.cell? ((⟨b,0,none⟩:Addr).add j)=some v:=fun j v hj=>by
                  rw [Addr.add_mk,cell_of_row w b _ cur e (0,0) c1]
                  rw [List.getElem?_take] at hj
                  split at hj
                  · simpa using hj
                  · cases hj
                have hkb:(len+k) * i.bytes≤140737488355328:=by rw [hby];exact hb
                have hg:=Lib.run_append_grow_string (P:=P) w t u o.type e i zv hu.u hus'.u h3 h4 ⟨b,0,none⟩ len cap (cur.toList.take (len * i.size)) holdl holdv b0 (by omega) (by omega) (growslice_fits (by omega) (by rw [← hk0];exact hkb))
                rw [← eus,← hk0] at hg
                have hcap:=grownCap_ge w (len+k) cap e
                have hcm:=grownCap_le_maxLen w (len+k) cap e hmaxn
                obtain ⟨m',g1,g2,g3⟩:=XcS (sz:=i.size) (rest:=(Builtin.zeroCells zv.cells (grownCap w (len+k) cap e - (len+k))).toList) (hR.kill id) happ hB1 e hcap hcm (by
                  rw [List.length_append,holdl,husl,Array.length_toList,size_zeroCells,hzs,← Nat.add_mul,← Nat.add_mul];congr 1;omega)
                have harr:(cur.toList.take (len * i.size)++us++(Builtin.zeroCells zv.cells (grownCap w (len+k) cap e - (len+k))).toList).toArray=(cur.toList.take (len * i.size)).toArray++us.toArray++Builtin.zeroCells zv.cells (grownCap w (len+k) cap e - (len+k)):=by
                  apply Array.ext';simp
                rw [harr] at g1 g2 g3
                exact ZbD
            · cases ha
          · cases ha
        · cases ha
    | _=>simp [Xo] at ha
theorem XhS {B:Blk} {id d:Nat} [hu:HasU P t (.slice e)] [hus:HasU P u .string] [hi:HasI P e 1 1 [.int .u8 0]] {x y:Operand} {len:Nat} {b:ByteArray} (k:Nat) (hG:Has H L) (hg:o.guard=none) (hd:o.dst=some d) (hn:d < n) (ho:o.op=.call { callee:=.builtin .append,args:=#[x,y],argTypes:=#[t,u] })
    (hx:E.ev x=some (.sl id 0 len 1)) (hy:E.ev y=some (.v (.string b))) (hk:L[k]?=some (id,B)) (hown:B.own=true) (he:Nat.beq B.elem.tid e=true) (hl:B.cells.length=len * 1) (h0:1≤b.size) (hb:len+b.size≤100000000)
    (h:∀ id' G,Has G (L.set k (id',⟨B.cells++XbP b.data.toList,e,true⟩))→wpL P n ops rest Q ((d,.sl id' 0 (len+b.size) 1)::E) G):wpL P n ops (o::rest) Q E H :=
  XfK hg hd hn (XjN rfl ho hx hy rfl h0 (XeJ (hG.get k id B hk) hown he (by rw [hl];exact Nat.beq_refl _)) (by omega) (by omega)) (h _ _ (hG.grow hk _))
end
end Go.Th
namespace Go.Proofs.YtlcphjcpoinolaaGreat
open Go.RowKit Go.Th
set_option maxRecDepth 20000
theorem XsQ {P:Program} {E:Env} {H:Xh} {o:Oper} {c:Call} {g:FuncId} {x y:Operand} {a b r:Value} (hg:∀ w,(callFunc g #[a,b]).run P w=.ok (.value r) w) (hr:Xe3 r=true) (ho:o.op=.call c) (hc:c.callee=.value (.func g)) (ha:c.args=#[x,y]) (hx:E.ev x=some (.v a)) (hy:E.ev y=some (.v b)):OpV P o E H (.v r):=fun m w ρ hR hρ=>by
  have e1:=XA (hρ x _ hx)
  have e2:=XA (hρ y _ hy)
  have hf:=hρ (.func g) (.fn (.func g) []) rfl
  generalize hv:ρ (.func g)=v at hf
  cases hf with
  | fn vs hl hh =>
    have hvs:vs=#[]:=by simpa using hl
    subst hvs
    refine ⟨r,?_,.v _ hr⟩
    simp [execOp,ho,resolve,hc,hv,Deferred.ofValue,invoke,ha,e1,e2,hg]
theorem Xvj (s:ByteArray) (c:Int) (w:World):(callFunc 140 #[.string s,.int .u8 c]).run Tryz.prog w=.ok (.value (.int .i64 (Lib.indexByte s.data.toList c.toNat.toUInt8))) w:=by
  rw [run_callFunc_extern Tryz.func140 (by kernel_rfl) (by kernel_rfl) (by kernel_rfl) (e:=Extern.BytealgIndexByte.indexByte) (by kernel_rfl),Lib.run_indexByteString]
  rfl
theorem Xsd (s:ByteArray) (c:Int):Iso Tryz.prog 80 [S s,.v (.int .u8 c)] (fun p=>p=I (Lib.indexByte s.data.toList c.toNat.toUInt8)):=by
  have hG:=Xc
  refine Xb Tryz.func80 rfl rfl rfl ?_
  repeat(first|refine Zd1 ?_|refine Xj rfl rfl (by decide) (XsQ (Xvj s c) rfl rfl rfl rfl rfl rfl) ?_)
  exact Zav
theorem XdT (s:ByteArray) (c:Int):Iso Tryz.prog 31 [S s,.v (.int .u8 c)] (fun p=>p=I (Lib.indexByte s.data.toList c.toNat.toUInt8)):=by
  have hG:=Xc
  have hk:=Xsd s c
  have tk:∀ x ∈ [S s,.v (.int .u8 c)],Xi x:=TreeL.cons (XX _) (TreeL.cons (.v _) TreeL.nil)
  refine Xb Tryz.func31 rfl rfl rfl ?_
  repeat(first|refine Zd1 ?_|(refine Zam ?_;rintro _ rfl))
  exact Zav
set_option maxHeartbeats 8000000 in
theorem Xmr (s:ByteArray) (hs:s.size≤100000):Iso Tryz.prog 79 [S s] (fun p=>p=S s):=by
  have hG:=Xc
  refine Xb Tryz.func79 rfl rfl rfl ?_
  by_cases h0:s.size=0
  · have e:s=ByteArray.empty:=ByteArray.ext (Array.eq_empty_of_size_eq_zero h0)
    subst e
    repeat(first|refine Zd1 ?_|refine ZO ?_)
    exact Zbi
  have hbs:s.data.toList.length=s.size:=by rw [Array.length_toList];rfl
  have hne:s.data.toList≠[]:=fun e=>by rw [e] at hbs;simp at hbs;omega
  repeat(first|refine Zd1 ?_|refine ZO ?_)
  refine XfK rfl rfl (by decide) (XjM rfl rfl (by omega)) ?_
  have hG:=hG.new ⟨List.replicate s.size (.v (.int .u8 0)),5,true⟩
  generalize hlo:List.length _=lo at hG ⊢
  generalize hGG:(_++[some _]:Xh)=G2 at hG ⊢
  repeat(first|refine Zd1 ?_)
  refine XfK rfl rfl (by decide) (XmE rfl rfl rfl rfl (hG.get 0 _ _ rfl) (by simp) (by omega)) ?_
  have hG:=hG.set (k:=0) rfl ⟨XbP s.data.toList,5,true⟩
  generalize hGH:List.set _ _ _=G3 at hG ⊢
  have hG:Has G3 [(lo,⟨XbP s.data.toList,5,true⟩)]:=hG
  repeat(first|refine Zd1 ?_|refine Xj rfl rfl (by decide) (Xa4 rfl rfl rfl rfl rfl (by omega)) ?_)
  have hs2:(⟨s.data.toList.toArray⟩:ByteArray)=s:=by
    apply ByteArray.ext
    simp
  refine XfK rfl rfl (by decide) (Xd0 (l:=s.data.toList) (by decide +kernel) rfl rfl (by rw [hbs];rfl) (hG.get 0 _ _ rfl) hne (by omega)) ?_
  rw [hs2]
  clear hG hGH hGG
  repeat(first|refine Zd1 ?_)
  exact Zbi
theorem XfI (s:ByteArray) (hs:s.size≤100000):Iso Tryz.prog 30 [S s] (fun p=>p=S s):=by
  have hG:=Xc
  have hk:=Xmr s hs
  have tk:∀ x ∈ [S s],Xi x:=TreeL.cons (XX _) TreeL.nil
  refine Xb Tryz.func30 rfl rfl rfl ?_
  repeat(first|refine Zd1 ?_|(refine Zam ?_;rintro _ rfl))
  exact Zbi
end Go.Proofs.YtlcphjcpoinolaaGreat
namespace Go.Proofs.YtlcphjcpoinolaaGreat
open Go.RowKit Go.Th
set_option maxRecDepth 20000
def Xw5 (s:ByteArray):Nat→Nat→List Int
  | 0,_=>[]
  | f+1,i=>if i < s.size then (Xgw s i).1::Xw5 s f (i+(Xgw s i).2.1) else []
def XAS (s:ByteArray):List Int:=Xw5 s (s.size+1) 0
set_option maxHeartbeats 16000000 in
theorem XoI (s:ByteArray) (hs:s.size≤100000) (hv:XaZ s=true):Iso Tryz.prog 34 [S s] (fun p=>p=.tup [XlT (XAS s),I 0]):=by
  have hG:=Xc
  have hv:Xfw s < 0:=of_decide_eq_true hv
  obtain ⟨J,hJ⟩:∃ J,J=XAS s:=⟨_,rfl⟩
  rw [← hJ]
  refine Xb Tryz.func34 rfl rfl rfl ?_
  repeat refine X4 ?_
  refine Zb ?_
  repeat(first|refine Zd ?_)
  refine Za ?_
  refine XQ 2 3 1 hG rfl ?_
  clear hG
  intro o G hG
  repeat(first|refine Zd1 ?_)
  refine Xg (S:=Nat × Nat × List Int × Nat) (fun st=>[(0,S s),(2,.sl st.2.2.2 0 st.2.2.1.length 1),(3,I 0),(4,I st.1)])
    (fun st G=>st.1≤s.size∧s.size+1 - st.1≤st.2.1∧XdY s st.2.1 st.1 < 0∧J=st.2.2.1++Xw5 s st.2.1 st.1∧st.2.2.1.length≤st.1∧Has G [(st.2.2.2,⟨st.2.2.1.map I,3,true⟩)]) (fun st=>s.size - st.1) (0,s.size+1,[],o)
    (.cons rfl (.cons rfl (.cons rfl (.cons rfl (.nil _))))) ⟨Nat.zero_le _,by dsimp only;omega,hv,by rw [hJ];rfl,Nat.zero_le _,hG⟩ ?_
  clear hG
  rintro ⟨i,f,out,o⟩ G ⟨hi,hf,hb,hj,hol,hG⟩
  dsimp only at hi hf hb hj hol hG
  cases f with
  | zero=>omega
  | succ f =>
    rw [XdY] at hb
    rw [Xw5] at hj
    dsimp only
    by_cases hil:i < s.size
    · rw [if_pos hil] at hb hj
      have hok:(Xgw s i).2.2=true:=by
        by_cases h:(Xgw s i).2.2=true
        · exact h
        · rw [if_neg h] at hb;omega
      rw [if_pos hok] at hb
      obtain ⟨o1,o2,o3⟩:=Xml hil hok
      have hk:=Xix s i (by omega) hil
      generalize Xgw s i=r at hk hok o1 o2 o3 hb hj
      obtain ⟨p,n,b⟩:=r
      dsimp only at hk hok o1 o2 o3 hb hj
      subst hok
      have ht:∀ c ∈ [S s,I i],Xi c:=TreeL.cons (Xi.v _) (TreeL.cons (Xi.v _) TreeL.nil)
      have hn:(out.map I).length=out.length * 1:=by simp
      repeat(first|refine Zd1 ?_|refine ZJ ?_|(refine Zan ?_;rintro _ rfl)|(refine Zdz ?_;intro lo2 G hG)|refine ZO ?_|refine ZS ?_|(refine ZL ?_;intro id G hG)|refine ZN ?_|refine ZU ?_)
      have hm:out.map I++[I p]=(out++[p]).map I:=by simp
      have hG2:=hG.tail
      rw [hm] at hG2
      exact ⟨(i+n,f,out++[p],lo2),by dsimp only;omega,.cons rfl (.cons (by rw [List.length_append];rfl) (.cons rfl (.cons (by rfl) (.nil _)))),by dsimp only;omega,by dsimp only;omega,hb,by rw [hj,List.append_assoc];rfl,by dsimp only;rw [List.length_append];simp only [List.length_cons,List.length_nil];omega,hG2⟩
    · rw [if_neg hil,List.append_nil] at hj
      subst hj
      repeat(first|refine Zd1 ?_|refine ZO ?_)
      exact Xg0 rfl rfl rfl (Conv.own hG (k:=0) rfl (Xek J)) (.refl _) (XfM J) (Xe _) rfl
end Go.Proofs.YtlcphjcpoinolaaGreat
