/- Part of the proof: the walk over the program and its laws: Bv Wt. -/
import Derived.Test.YtlcphjcpoinolaaGreatP0
import Derived.Test.YtlcphjcpoinolaaGreatP30
import Derived.Test.YtlcphjcpoinolaaGreatP24
import Derived.Test.YtlcphjcpoinolaaGreatP15
import Derived.Test.YtlcphjcpoinolaaGreatP33
set_option linter.unusedVariables false
namespace Go.Proofs.YtlcphjcpoinolaaGreat
open Go.RowKit Go.Th
set_option maxRecDepth 20000
instance:HasU Tryz.prog 259 .unsafePointer:=HasU.mk Tryz.underlying259
def Xw7:PV:=.v (.pointer none)
theorem XyI (v:Value) (w:World):(callFunc 189 #[v]).run Tryz.prog w=.ok (.value v) w:=by
  rw [run_callFunc_extern Tryz.func189 (by kernel_rfl) (by kernel_rfl) (by kernel_rfl) (e:=Extern.AbiNoEscape.same) (by kernel_rfl)]
  rfl
theorem k81a:Nat.ble (Tryz.prog.cellsOf 81) 2=true:=by decide +kernel
theorem k81b:Nat.ble (0+1) (Tryz.prog.cellsOf 81)=true:=by decide +kernel
theorem k81c:rowAt Tryz.prog (sameLayout Tryz.prog Tryz.prog.depth · 81) Tryz.prog.depth 81 1 0 1=true:=by decide +kernel
def blB (ad bf:PV):Blk:=⟨[ad,bf],81,true⟩
set_option maxHeartbeats 8000000 in
theorem XfC (c:Nat) (ad bf:PV) (had:ad=Xw7∨ad=.ptr c 0) (G:Xh) (K:List (Nat × Blk)) (hG:Has G ((c,blB ad bf)::K)) :
    AC Tryz.prog 148 [.ptr c 0] G (fun p G'=>p=.tup []∧Has G' ((c,blB (.ptr c 0) bf)::K)):=by
  refine Xw Tryz.func148 rfl rfl rfl ?_
  unfold blB at hG
  rcases had with rfl | rfl
  · repeat(first|refine Zd1 ?_|refine ZJ ?_|refine Xj rfl rfl (by decide) (Xgd rfl rfl rfl) ?_|refine Xj rfl rfl (by decide) (Xle rfl rfl (hG.get 0 _ _ rfl) rfl rfl) ?_|refine Xj rfl rfl (by decide) (Xh1 rfl rfl (hG.get 0 _ _ rfl) k81a k81b k81c) ?_|refine Xj rfl rfl (by decide) (XwX XyI rfl rfl rfl rfl) ?_|refine Zad ?_|(refine ZA ?_;intro G hG))
    exact XcO rfl (.inl rfl) ⟨rfl,hG⟩
  · repeat(first|refine Zd1 ?_|refine Xj rfl rfl (by decide) (Xgd rfl rfl rfl) ?_|refine Xj rfl rfl (by decide) (XqX rfl rfl rfl (hG.get 0 _ _ rfl)) ?_|refine Zad ?_)
    exact XcO rfl (.inl rfl) ⟨rfl,hG⟩
def BlH (c:Nat) (lit:List UInt8) (K:List (Nat × Blk)) (G:Xh):Prop:=∃ ad lo,(ad=Xw7∨ad=.ptr c 0)∧Has G ((c,blB ad (.sl lo 0 lit.length 1))::(lo,⟨XbP lit,5,true⟩)::K)
theorem Xk9 (a b:List UInt8):XbP a++XbP b=XbP (a++b):=by simp [XbP]
set_option maxHeartbeats 8000000 in
theorem Xcv (c:Nat) (lit:List UInt8) (b:UInt8) (hl:lit.length≤1000000) (G:Xh) (K:List (Nat × Blk)) (hB:BlH c lit K G) :
    AC Tryz.prog 90 [.ptr c 0,.v (.int .u8 b.toNat)] G (fun p G'=>p=.v .nilIface∧BlH c (lit++[b]) K G'):=by
  obtain ⟨ad,lo,had,hG⟩:=hB
  have hn:(XbP lit).length=lit.length * 1:=by rw [XfE,Nat.mul_one]
  have hm:=Xk9 lit [b]
  refine Xw Tryz.func90 rfl rfl rfl ?_
  repeat(first|refine Zd7 ?_)
  refine X0 rfl rfl rfl rfl rfl rfl (by decide) (XfC c ad _ had _ _ hG) ?_
  clear hG
  rintro _ G ⟨rfl,hG⟩
  unfold blB at hG
  repeat(first|refine Zd1 ?_|(refine ZdA ?_;intro lo2 G hG)|refine Zad ?_|(refine Za5 ?_;intro G hG)|(refine ZL ?_;intro id G hG))
  refine XG rfl rfl ⟨rfl,.ptr c 0,lo2,.inr rfl,?_⟩
  rw [List.length_append,← hm]
  exact hG.tail
set_option maxHeartbeats 8000000 in
theorem Xlq (c:Nat) (lit:List UInt8) (b:ByteArray) (hl:lit.length≤1000000) (hb:b.size≤1000000) (h0:1≤b.size) (G:Xh) (K:List (Nat × Blk)) (hB:BlH c lit K G) :
    AC Tryz.prog 89 [.ptr c 0,S b] G (fun p G'=>p=.tup [I b.size,.v .nilIface]∧BlH c (lit++b.data.toList) K G'):=by
  obtain ⟨ad,lo,had,hG⟩:=hB
  have hn:(XbP lit).length=lit.length * 1:=by rw [XfE,Nat.mul_one]
  have hm:=Xk9 lit b.data.toList
  have hbl:b.data.toList.length=b.size:=by rw [Array.length_toList];rfl
  refine Xw Tryz.func89 rfl rfl rfl ?_
  repeat(first|refine Zd7 ?_)
  refine X0 rfl rfl rfl rfl rfl rfl (by decide) (XfC c ad _ had _ _ hG) ?_
  clear hG
  rintro _ G ⟨rfl,hG⟩
  unfold blB at hG
  repeat(first|refine Zd1 ?_|(refine XhS 1 hG rfl rfl (by decide) rfl rfl rfl rfl rfl rfl hn h0 (by omega) ?_;intro lo2 G hG)|refine ZO ?_|refine Zad ?_|(refine ZA ?_;intro G hG))
  refine XuE rfl rfl rfl ⟨rfl,.ptr c 0,lo2,.inr rfl,?_⟩
  rw [List.length_append,hbl,← hm]
  exact hG
set_option maxHeartbeats 8000000 in
theorem XnV (c:Nat) (lit:List UInt8) (h0:lit≠[]) (hl:lit.length≤1000000) (G:Xh) (K:List (Nat × Blk)) (hB:BlH c lit K G) :
    AC Tryz.prog 37 [.ptr c 0] G (fun p G'=>p=S ⟨lit.toArray⟩):=by
  obtain ⟨ad,lo,had,hG⟩:=hB
  have h1:1≤lit.length:=List.length_pos_iff.2 h0
  refine Xw Tryz.func37 rfl rfl rfl ?_
  unfold blB at hG
  repeat(first|refine Zd1 ?_)
  refine XjU [10] [G.set lo none] (G.set lo none) mixed (by decide +kernel) (N:=1) (by decide +kernel) rfl ?_
  repeat(first|refine Zbt ?_|refine F_v rfl rfl rfl rfl (by decide) (fun _=>XjO rfl rfl h1) ?_|refine F_w 0 rfl (by decide +kernel) rfl rfl rfl rfl (by decide) (Xd0 (by decide +kernel) rfl rfl rfl (hG.get 1 _ _ rfl) h0 (by omega)) rfl ?_|refine Zd8 ?_|refine F_v rfl rfl rfl rfl (by decide) (fun _=>XdS rfl rfl rfl) ?_)
  repeat(first|refine Zf ?_)
  exact XG rfl rfl rfl
theorem Xgy {P:Program} {E:Env} {H:Xh} {o:Oper} {t:TypeId} {x:Operand} (ho:o.op=.call { callee:=.builtin .unsafeSliceData,args:=#[x],argTypes:=#[t] }) (hx:E.ev x=some Xaw):OpV P o E H Xw7:=fun m w ρ hR hρ=>by
  have e1:=XA (hρ x _ hx)
  refine ⟨.pointer none,?_,.v _ rfl⟩
  simp [execOp,ho,resolve,invoke,builtin,e1,Lib.run_unsafeSliceData_nil]
theorem XmJ {P:Program} {E:Env} {H:Xh} {o:Oper} {pt it:TypeId} {x y:Operand} (ho:o.op=.call { callee:=.builtin .unsafeString,args:=#[x,y],argTypes:=#[pt,it] }) (hx:E.ev x=some Xw7) (hy:E.ev y=some (I 0)):OpV P o E H (S ByteArray.empty):=fun m w ρ hR hρ=>by
  have e1:=XA (hρ x _ hx)
  have e2:=XA (hρ y _ hy)
  refine ⟨.string ByteArray.empty,?_,.v _ rfl⟩
  have hrun:=Lib.run_unsafeString_none (P:=P) w pt it o.type none
  simp [execOp,ho,resolve,invoke,builtin,e1,e2,hrun]
end Go.Proofs.YtlcphjcpoinolaaGreat
namespace Go.Proofs.YtlcphjcpoinolaaGreat
open Go.RowKit Go.Th
set_option maxRecDepth 20000
theorem XcV {P:Program} {E:Env} {H:Xh} {o:Oper} {t:TypeId} {x y:Operand} [hu:HasU P t .string] {b:ByteArray} {k:IntKind} {i:Int} (v:Nat) (ho:o.op=.index t x y) (hx:E.ev x=some (.v (.string b))) (hy:E.ev y=some (.v (.int k i))) (h:0≤i∧i < b.size) (hv:Xd b i.toNat=v):OpV P o E H (.v (.int .u8 (v:Nat))):=by
  subst hv
  exact XeL ho hx hy h
def Xwm:Item→Prop
  | .mk k c i t h f r=>i=0∧h=XcZ∧f=[]∧r=[]∧((k=1∧c=0∧1≤t.size∧t.size≤1000)∨(k=2∧c=0∧t=ByteArray.empty)∨(k=4∧(c=1∨c=2∨c=3)∧t=ByteArray.empty))
def brkB (c:Int):UInt8:=if c=1 then 11 else if c=2 then 12 else 9
def wrI:Item→List UInt8
  | .mk k c _ t _ _ _=>if k=1 then t.data.toList else if k=2 then [10] else [brkB c]
def wrF (l:List Item):List UInt8:=l.flatMap wrI
set_option maxHeartbeats 16000000 in
theorem Xq8 (c:Nat) (l:List Item) (hl:l.length≤1000000) (hf:∀ x ∈ l,Xwm x) (lit:List UInt8) (hw:lit.length+(wrF l).length≤1000000) (G:Xh) (K:List (Nat × Blk)) (hB:BlH c lit K G) :
    AC Tryz.prog 36 [.ptr c 0,Xk l] G (fun p G'=>p=.tup []∧BlH c (lit++wrF l) K G'):=by
  refine Xw Tryz.func36 rfl rfl rfl ?_
  unfold Xk XaK
  obtain ⟨ad,lo,had,hG⟩:=hB
  repeat(first|refine Zd7 ?_|refine Zv ?_)
  have hB:BlH c lit K G:=⟨ad,lo,had,hG⟩
  clear hG had
  refine Zh ?_
  refine Xg (S:=Nat) (fun i=>[(0,.ptr c 0),(10,Xk l),(11,I l.length),(12,I i)]) (fun i G=>i≤l.length∧BlH c (lit++wrF (l.take i)) K G) (fun i=>l.length - i) 0
    (.cons rfl (.cons rfl (.cons rfl (.cons rfl (.nil _))))) ⟨Nat.zero_le _,by simpa [wrF] using hB⟩ ?_
  clear hB
  rintro i G ⟨hi,ad,lo,had,hG⟩
  by_cases hil:i < l.length
  rotate_left
  · rw [List.take_of_length_le (by omega)] at hG
    repeat(first|refine Zd1 ?_|refine ZaC ?_|refine ZaD ?_)
    exact XcO rfl (.inl rfl) ⟨rfl,ad,lo,had,hG⟩
  obtain ⟨x,hx⟩:∃ x,l[i]?=some x:=⟨_,List.getElem?_eq_getElem hil⟩
  have hxf:=hf x (List.mem_of_getElem? hx)
  have htk:wrF (l.take (i+1))=wrF (l.take i)++wrI x:=by
    rw [List.take_add_one,hx]
    simp [wrF]
  have hle:(wrF (l.take i)).length+(wrI x).length≤(wrF l).length:=by
    have:wrF l=wrF (l.take (i+1))++wrF (l.drop (i+1)):=by
      unfold wrF
      rw [← List.flatMap_append,List.take_append_drop]
    rw [this,htk,List.length_append,List.length_append];omega
  obtain ⟨k,cc,d,t,h,f,r⟩:=x
  obtain ⟨rfl,rfl,rfl,rfl,hk⟩:=hxf
  have hc:=Xi8 hx
  have hlen:(lit++wrF (l.take i)).length≤1000000:=by rw [List.length_append];omega
  rcases hk with ⟨rfl,rfl,h1,h2⟩ | ⟨rfl,rfl,rfl⟩ | ⟨rfl,hcc,rfl⟩
  · repeat(first|refine Zd1 ?_|refine Zbv ?_|(refine ZA ?_;intro G hG)|(refine ZD ?_;intro id G hG))
    refine X0 rfl rfl rfl rfl rfl rfl (by decide) (Xlq c _ t hlen (by omega) h1 _ _ ⟨ad,lo,had,hG.tail⟩) ?_
    clear hG had
    rintro _ G ⟨rfl,hB⟩
    repeat(first|refine Zd1 ?_|refine ZJ ?_)
    refine ⟨i+1,by omega,.cons rfl (.cons rfl (.cons rfl (.cons rfl (.nil _)))),by omega,?_⟩
    rw [htk,← List.append_assoc]
    exact hB
  · repeat(first|refine Zd1 ?_|refine Zbv ?_|(refine ZA ?_;intro G hG)|(refine ZD ?_;intro id G hG))
    refine X0 rfl rfl rfl rfl rfl rfl (by decide) (Xcv c _ 10 hlen _ _ ⟨ad,lo,had,hG.tail⟩) ?_
    clear hG had
    rintro _ G ⟨rfl,hB⟩
    repeat(first|refine Zd1 ?_|refine ZJ ?_)
    refine ⟨i+1,by omega,.cons rfl (.cons rfl (.cons rfl (.cons rfl (.nil _)))),by omega,?_⟩
    rw [htk,← List.append_assoc]
    exact hB
  · rcases hcc with rfl | rfl | rfl
    · repeat(first|refine Zd1 ?_|refine Zbv ?_|refine Xj rfl rfl (by decide) (XcV 11 rfl rfl rfl (by decide) (by decide)) ?_|(refine ZA ?_;intro G hG)|(refine ZD ?_;intro id G hG))
      refine X0 rfl rfl rfl rfl rfl rfl (by decide) (Xcv c _ 11 hlen _ _ ⟨ad,lo,had,hG.tail⟩) ?_
      clear hG had
      rintro _ G ⟨rfl,hB⟩
      repeat(first|refine Zd1 ?_|refine ZJ ?_)
      refine ⟨i+1,by omega,.cons rfl (.cons rfl (.cons rfl (.cons rfl (.nil _)))),by omega,?_⟩
      rw [htk,← List.append_assoc]
      exact hB
    · repeat(first|refine Zd1 ?_|refine Zbv ?_|refine Xj rfl rfl (by decide) (XcV 12 rfl rfl rfl (by decide) (by decide)) ?_|(refine ZA ?_;intro G hG)|(refine ZD ?_;intro id G hG))
      refine X0 rfl rfl rfl rfl rfl rfl (by decide) (Xcv c _ 12 hlen _ _ ⟨ad,lo,had,hG.tail⟩) ?_
      clear hG had
      rintro _ G ⟨rfl,hB⟩
      repeat(first|refine Zd1 ?_|refine ZJ ?_)
      refine ⟨i+1,by omega,.cons rfl (.cons rfl (.cons rfl (.cons rfl (.nil _)))),by omega,?_⟩
      rw [htk,← List.append_assoc]
      exact hB
    · repeat(first|refine Zd1 ?_|refine Zbv ?_|refine Xj rfl rfl (by decide) (XcV 9 rfl rfl rfl (by decide) (by decide)) ?_|(refine ZA ?_;intro G hG)|(refine ZD ?_;intro id G hG))
      refine X0 rfl rfl rfl rfl rfl rfl (by decide) (Xcv c _ 9 hlen _ _ ⟨ad,lo,had,hG.tail⟩) ?_
      clear hG had
      rintro _ G ⟨rfl,hB⟩
      repeat(first|refine Zd1 ?_|refine ZJ ?_)
      refine ⟨i+1,by omega,.cons rfl (.cons rfl (.cons rfl (.cons rfl (.nil _)))),by omega,?_⟩
      rw [htk,← List.append_assoc]
      exact hB
end Go.Proofs.YtlcphjcpoinolaaGreat
