/- Part of the proof: the walk over the program and its laws: Bx By. -/
import Derived.Lib.Builder
import Derived.Lib.UnsafeStr
import Derived.Laws.Externs
import Derived.Test.YtlcphjcpoinolaaGreatP0
import Derived.Test.YtlcphjcpoinolaaGreatP3
set_option linter.unusedVariables false
namespace Go.Th
open Go.RowKit
section
variable {P:Program} {E:Env} {H:Xh} {o:Oper} {s d t u ty ty2:TypeId} {size bytes:Nat} {z:List Value}
theorem XgX {p:Program} {fits:TypeId→Bool} {n:Nat} {e:TypeId} {count off:Nat} (hs:off < p.cellsOf e) (hc:1≤count):rowAt p fits (n+1) e count off 1=rowAt p fits (n+1) e 1 off 1:=by
  have h0:off / p.cellsOf e=0:=Nat.div_eq_of_lt hs
  simp only [rowAt,h0]
  have h1:decide (0+1≤count)=true:=decide_eq_true (by omega)
  have h2:decide (0 < count)=true:=decide_eq_true (by omega)
  simp [h1,h2]
theorem Xfq {m:Mp} {w:World} (hR:R m H w) {id off:Nat} {B:Blk} (hB:H[id]?=some (some B)) {v:Value} (hr:Rep m w (.ptr id off) v) :
    ∃ b lim cur,v=.pointer (some ⟨b,0+off,none⟩)∧m.blk id=some (b,0,lim)∧w.heap[b]?=some (.cells cur B.elem.tid (0,0))∧cur.size=lim∧B.cells.length≤lim:=by
  cases hr with
  | @ptr _ _ b lim hm =>
    obtain ⟨_,⟨cur,h1,h2,h3,_⟩,_⟩:=hR.blk id B b 0 lim hB hm
    exact ⟨b,lim,cur,rfl,hm,h1,h2,by omega⟩
theorem Xdw {w:World} {b:Nat} {cur:Array Value} {e:TypeId} (h:w.heap[b]?=some (.cells cur e (0,0))):w.shape? b=some (e,cur.size):=by
  simp [World.shape?,h]
theorem Xle [hs:HasU P s (.pointer t)] [hd:HasU P d .unsafePointer] [hi:HasI P t size bytes z] {x:Operand} {id off:Nat} {B:Blk} (ho:o.op=.convert s d x) (hx:E.ev x=some (.ptr id off)) (hB:H[id]?=some (some B))
    (hsz:Nat.ble 1 size=true) (hof:Nat.ble (off+1) B.cells.length=true):OpV P o E H (.ptr id off):=fun m w ρ hR hρ=>by
  have hr:=hρ x _ hx
  obtain ⟨b,lim,cur,e1,hm,hh,hl,hle⟩:=Xfq hR hB hr
  obtain ⟨i,zv,hi1,hi2,_⟩:=hi.i
  have h1:1≤size:=Nat.le_of_ble_eq_true hsz
  have h2:off+1≤B.cells.length:=Nat.le_of_ble_eq_true hof
  refine ⟨.pointer (some ⟨b,0+off,none⟩),?_,e1 ▸ hr⟩
  have hrun:=Lib.run_to_unsafe (P:=P) w (⟨b,0+off,none⟩:Addr) hs.u hd.u hi1 (by omega) (Xdw hh) (show 0+off < cur.size by omega)
  simp only [Nat.zero_add] at hrun
  simp [execOp,ho,e1,hrun]
theorem Xh1 [hs:HasU P s .unsafePointer] [hd:HasU P d (.pointer u)] [hi:HasI P u size bytes z] {x:Operand} {id off:Nat} {B:Blk} (ho:o.op=.convert s d x) (hx:E.ev x=some (.ptr id off)) (hB:H[id]?=some (some B))
    (hc:Nat.ble (P.cellsOf B.elem.tid) B.cells.length=true) (hc1:Nat.ble (off+1) (P.cellsOf B.elem.tid)=true) (hl:rowAt P (sameLayout P P.depth · u) P.depth B.elem.tid 1 off 1=true):OpV P o E H (.ptr id off):=fun m w ρ hR hρ=>by
  have hr:=hρ x _ hx
  obtain ⟨b,lim,cur,e1,hm,hh,hlim,hle⟩:=Xfq hR hB hr
  obtain ⟨i,zv,hi1,hi2,_⟩:=hi.i
  have h1:P.cellsOf B.elem.tid≤B.cells.length:=Nat.le_of_ble_eq_true hc
  have h2:off+1≤P.cellsOf B.elem.tid:=Nat.le_of_ble_eq_true hc1
  have hcnt:1≤cur.size / P.cellsOf B.elem.tid:=by
    rw [Nat.le_div_iff_mul_le (by omega)];omega
  have hlies:liesAt P P.depth B.elem.tid (cur.size / P.cellsOf B.elem.tid) (0+off) u 1=true:=by
    have hd:P.depth=(2 * (P.types.size+Made.depth)+1)+1:=rfl
    rw [hd] at hl ⊢
    simp only [liesAt,Bool.or_eq_true]
    left
    rw [hd,Nat.zero_add,XgX (by omega) hcnt]
    exact hl
  refine ⟨.pointer (some ⟨b,0+off,none⟩),?_,e1 ▸ hr⟩
  have hrun:=Lib.run_from_unsafe (P:=P) w (⟨b,0+off,none⟩:Addr) hs.u hd.u hi1 (Xdw hh) hlies
  simp only [Nat.zero_add] at hrun
  simp [execOp,ho,e1,hrun]
theorem XqX [ht:HasU P t (.pointer u)] [hi:HasI P u size bytes z] {x y:Operand} {id off:Nat} {B:Blk} (ho:o.op=.binOp .neq t x y ty) (hx:E.ev x=some (.ptr id off)) (hy:E.ev y=some (.ptr id off)) (hB:H[id]?=some (some B)):OpV P o E H (.v (.bool false)):=fun m w ρ hR hρ=>by
  obtain ⟨b,lim,cur,e1,hm,_⟩:=Xfq hR hB (hρ x _ hx)
  obtain ⟨b2,lim2,cur2,e2,hm2,_⟩:=Xfq hR hB (hρ y _ hy)
  rw [hm] at hm2
  injection hm2 with hm2
  injection hm2 with hb
  subst hb
  obtain ⟨i,zv,hi1,hi2,_⟩:=hi.i
  refine ⟨.bool false,?_,.v _ rfl⟩
  have hrun:=Lib.run_neq_ptr_same (P:=P) w (⟨b,0+off,none⟩:Addr) ht.u hi1
  simp only [Nat.zero_add] at hrun
  simp [execOp,ho,e1,e2,eqGuard,hrun]
theorem XwX {c:Call} {g:FuncId} {x:Operand} {p:PV} (hg:∀ v w,(callFunc g #[v]).run P w=.ok (.value v) w) (ho:o.op=.call c) (hc:c.callee=.value (.func g)) (ha:c.args=#[x]) (hx:E.ev x=some p):OpV P o E H p:=fun m w ρ hR hρ=>by
  have hr:=hρ x _ hx
  have hf:=hρ (.func g) (.fn (.func g) []) rfl
  generalize hv:ρ (.func g)=v at hf
  cases hf with
  | fn vs hl hh =>
    have hvs:vs=#[]:=by simpa using hl
    subst hvs
    refine ⟨ρ x,?_,hr⟩
    simp [execOp,ho,resolve,hc,hv,Deferred.ofValue,invoke,ha,hg]
theorem XjO {x:Operand} {id off n sz:Nat} (ho:o.op=.call { callee:=.builtin .unsafeSliceData,args:=#[x],argTypes:=#[t] }) (hx:E.ev x=some (.sl id off n sz)) (hn:1≤n):OpV P o E H (.ptr id off):=fun m w ρ hR hρ=>by
  have hr:=hρ x _ hx
  generalize hv:ρ x=v at hr
  cases hr with
  | @sl _ _ _ _ b lim cap hm h1 h2 h3 =>
    refine ⟨.pointer (some ⟨b,0+off,none⟩),?_,.ptr hm⟩
    have hrun:=Lib.run_unsafeSliceData_row (P:=P) w #[t] o.type (⟨b,0+off,none⟩:Addr) n cap (by omega)
    simp only [Nat.zero_add] at hrun
    simp [execOp,ho,resolve,invoke,builtin,hv,hrun]
  | sl0 a=>omega
def XbP (l:List UInt8):List PV:=l.map fun b=>.v (.int .u8 b.toNat)
theorem XqL (l:List UInt8):(XbP l).all XV=true:=List.all_eq_true.2 fun c hc=>by
  obtain ⟨x,_,rfl⟩:=List.mem_map.1 hc
  rfl
theorem XfE (l:List UInt8):(XbP l).length=l.length:=by simp [XbP]
theorem R.freezeW {m:Mp} {w:World} (hR:R m H w) {id b lim n:Nat} {B:Blk} (hB:H[id]?=some (some B)) (hown:B.own=true) (hm:m.blk id=some (b,0,lim)) :
    R m (H.set id none) (w.freeze ⟨b,0,none⟩ n)∧Le m w m (w.freeze ⟨b,0,none⟩ n):=by
  have hk:¬ m.keep b:=(hR.blk id B b 0 lim hB hm).2.2.1 hown
  have hother:∀ k,k≠b→(w.freeze ⟨b,0,none⟩ n).heap[k]?=w.heap[k]?:=fun k hk=>by
    unfold World.freeze
    split
    · rfl
    · simp only [Array.getElem?_modify]
      rw [if_neg (fun e=>hk e.symm)]
  have hsz:(w.freeze ⟨b,0,none⟩ n).heap.size=w.heap.size:=by
    unfold World.freeze
    split <;> simp
  refine (hR.kill id).world (by rw [hsz];exact Nat.le_refl _) ?_ ?_ ?_ (fun k hkk=>hother k (fun e=>hk (e ▸ hkk))) (fun i C b' d' lim' hi hm'=>hother b' ?_)
  · unfold World.freeze;split <;> rfl
  · unfold World.freeze;split <;> rfl
  · unfold World.freeze;split <;> rfl
  · rcases XH hi with ⟨_,e⟩ | ⟨hne,hi⟩
    · cases e
    · cases ho:C.own with
      | true=>exact hR.inj i id C B _ _ _ _ _ _ hne hi hB ho hown hm' hm
      | false =>
        intro e
        exact hk (e ▸ hR.rk _ ((hR.blk i C b' d' lim' hi hm').2.2.2 ho))
theorem Xd0 {pt it e:TypeId} [hp:HasU P pt (.pointer e)] (hce:P.cellsOf e=1) {x y:Operand} {id:Nat} {l:List UInt8} (ho:o.op=.call { callee:=.builtin .unsafeString,args:=#[x,y],argTypes:=#[pt,it] })
    (hx:E.ev x=some (.ptr id 0)) (hy:E.ev y=some (.v (.int .i64 (l.length:Nat)))) (hB:H[id]?=some (some ⟨XbP l,e,true⟩)) (h0:l≠[]) (h63:l.length≤9223372036854775807) :
    OpW P o E H (.v (.string ⟨l.toArray⟩)) (H.set id none):=fun m w ρ hR hρ=>by
  obtain ⟨b,lim,cur,e1,hm,hh,hlim,hle⟩:=Xfq hR hB (hρ x _ hx)
  have e2:=XA (hρ y _ hy)
  obtain ⟨hR',hLe⟩:=hR.freezeW (n:=l.length) hB rfl hm
  rw [XfE] at hle
  have hcell:∀ j (c:UInt8),l[j]?=some c→w.cell? ((⟨b,0,none⟩:Addr).add j)=some (.int .u8 c.toNat):=fun j c hj=>by
    obtain ⟨_,⟨cur',c1,c2,c3,c4⟩,_⟩:=hR.blk id _ b 0 lim hB hm
    obtain ⟨v,hv,hrv,_⟩:=c4 j (.v (.int .u8 c.toNat)) (by simp [XbP,hj])
    have:=XA hrv
    subst this
    rw [Addr.add_mk,cell_of_row w b _ cur' _ (0,0) c1,Nat.zero_add]
    rw [Nat.zero_add] at hv
    exact hv
  refine ⟨.string ⟨l.toArray⟩,m,_,?_,hLe,hR',.v _ rfl⟩
  have hrun:=Lib.run_unsafeString_row (P:=P) w pt it o.type e hp.u hce b cur.size (Xdw hh) l h0 (by omega) h63 hcell
  simp [execOp,ho,resolve,invoke,builtin,e1,e2,hrun]
end
end Go.Th
namespace Go.Th
open Go.RowKit
section
variable {P:Program} {H:Xh} {E:Env} {o:Oper}
end
end Go.Th
