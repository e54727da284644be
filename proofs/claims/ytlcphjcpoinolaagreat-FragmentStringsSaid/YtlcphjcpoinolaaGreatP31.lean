/- Part of the proof: the walk over the program and its laws: Ic Ja. -/
import Derived.Test.YtlcphjcpoinolaaGreatP0
import Derived.Test.YtlcphjcpoinolaaGreatP30
import Derived.Test.YtlcphjcpoinolaaGreatP18
set_option linter.unusedVariables false
namespace Go.Proofs.YtlcphjcpoinolaaGreat
open Go.RowKit Go.Th
set_option maxRecDepth 20000
def Xc1:ByteArray:=⟨#[10,11,12,9]⟩
def XdX (b:Nat):Bool:=decide (b=10∨b=11∨b=12∨b=9)
def Xo9:List Value:=List.replicate 256 (.bool false)
theorem Xgr {P:Program} {o:Oper} {E:Env} {H:Xh} {t e:TypeId} {n sz bytes:Nat} {z:List Value} [hu:HasU P t (.array n e)] [hi:HasI P e sz bytes z] {x y:Operand} {k:IntKind} {i:Int} {p q:PV} (ho:o.op=.indexAddr t x y) (hx:E.ev x=some p) (hy:E.ev y=some (.v (.int k i)))
    (hq:Xdf p (i.toNat * sz)=some q) (h:0≤i∧i < n):OpV P o E H q:=fun m w ρ hR hρ=>by
  obtain ⟨a,e1,hr⟩:=Xez (hρ x p hx) hq
  have h2:=XA (hρ y _ hy)
  obtain ⟨inf,zv,h3,h4,_⟩:=hi.i
  refine ⟨_,?_,hr⟩
  simp [execOp,ho,e1,h2,Instr.indexAt,run_underlying hu.u,asIntOf,Instr.sureAddr,h,run_sizeOf w h3,show P.cellsOf e=sz by simp [Program.cellsOf,h3,h4]]
theorem Xu0:(Tryz.prog.info? 154).map (fun i=>(i.zero,i.size,i.bytes))=some (some (.agg (Array.replicate 256 (.bool false))),256,256):=by kernel_rfl
theorem Xuh:(Value.agg (Array.replicate 256 (.bool false))).cells.toList=Xo9:=by
  show (Array.replicate 256 (Value.bool false)).toList=_
  rw [Array.toList_replicate];rfl
instance:HasI Tryz.prog 154 256 256 Xo9:=HasI.mk_of Xu0 Xuh
def Xda:Nat→List PV
  | 0=>Xo9.map PV.v
  | i+1=>(Xda i).set (Xd Xc1 i) (B true)
theorem Xc2:∀ i,(Xda i).length=256
  | 0=>by show (Xo9.map PV.v).length=_;unfold Xo9;rw [List.length_map,List.length_replicate]
  | i+1=>by rw [Xda,List.length_set,Xc2 i]
theorem XiV:∀ i,(Xda i).all XV=true
  | 0=>by
    refine List.all_eq_true.2 fun c hc=>?_
    obtain ⟨x,hx,rfl⟩:=List.mem_map.1 hc
    have:=List.eq_of_mem_replicate hx
    subst this;rfl
  | i+1=>by
    refine List.all_eq_true.2 fun c hc=>?_
    rcases List.mem_or_eq_of_mem_set hc with h | h
    · exact List.all_eq_true.1 (XiV i) c h
    · subst h;rfl
theorem Xpd:∀ i c,c ∈ Xda i→∃ b,c=B b
  | 0,c,hc=>by
    obtain ⟨x,hx,rfl⟩:=List.mem_map.1 hc
    have:=List.eq_of_mem_replicate hx
    subst this;exact ⟨false,rfl⟩
  | i+1,c,hc=>by
    rcases List.mem_or_eq_of_mem_set hc with h | h
    · exact Xpd i c h
    · exact ⟨true,h⟩
theorem Xui (b:Nat) (hb:b < 256):(Xda 4)[b]?=some (B (XdX b)):=by
  have h0:(Xda 0)[b]?=some (B false):=by
    show (Xo9.map PV.v)[b]?=_
    unfold Xo9
    rw [List.getElem?_map,List.getElem?_replicate,if_pos hb];rfl
  have e0:Xd Xc1 0=10:=by decide
  have e1:Xd Xc1 1=11:=by decide
  have e2:Xd Xc1 2=12:=by decide
  have e3:Xd Xc1 3=9:=by decide
  simp only [Xda] at h0 ⊢
  rw [e0,e1,e2,e3]
  simp only [List.getElem?_set,List.length_set]
  have hl:(Xo9.map PV.v).length=256:=Xc2 0
  rw [hl]
  unfold XdX
  by_cases c3:9=b
  · subst c3;simp
  rw [if_neg c3]
  by_cases c2:12=b
  · subst c2;simp
  rw [if_neg c2]
  by_cases c1:11=b
  · subst c1;simp
  rw [if_neg c1]
  by_cases c0:10=b
  · subst c0;simp
  rw [if_neg c0,h0,decide_eq_false (by omega)]
theorem Xj9:∀ (A C:List PV),A.length=C.length→X6 A 0 C=C:=by
  have key:∀ (C P A:List PV),A.length=C.length→X6 (P++A) P.length C=P++C:=by
    intro C
    induction C with
    | nil=>intro P A h;have:A=[]:=List.eq_nil_of_length_eq_zero h;subst this;rfl
    | cons c C ih =>
      intro P A h
      cases A with
      | nil=>simp at h
      | cons a A =>
        rw [X6]
        have e:(P++a::A).set P.length c=(P++[c])++A:=by simp
        rw [e]
        have:=ih (P++[c]) A (by simpa using h)
        simp only [List.length_append,List.length_cons,List.length_nil] at this
        rw [this];simp
  intro A C h
  exact key C [] A h
theorem Xsa:Xdl (TypeDesc.array 256 4)=true:=rfl
theorem Xr0 (i:Nat):XfV (TypeDesc.array 256 4) 256 (Xda i) 0=some (.agg (Xda i)):=by
  unfold XfV
  rw [Xsa]
  have:=Xd6 (l:=Xda i) (n:=256) (Xc2 i)
  simp only [this]
set_option maxHeartbeats 16000000 in
theorem Xla:Iso Tryz.prog 77 [S Xc1] (fun p=>p=.tup [.agg (Xda 4),B true]):=by
  have hG:=Xc
  have hsz:Xc1.size=4:=rfl
  have hlo:∀ i,i < 4→Xd Xc1 i < 128:=by decide
  refine Xb Tryz.func77 rfl rfl rfl ?_
  repeat refine X4 ?_
  refine Zb ?_
  repeat(first|refine Zd ?_|(refine ZD ?_;intro id G hG))
  refine Za ?_
  obtain ⟨a,ha⟩:∃ a,a=id:=⟨_,rfl⟩
  rw [← ha] at hG ⊢
  clear ha
  have hG:Has G [(a,⟨Xda 0,154,true⟩)]:=hG
  repeat(first|refine Zd1 ?_)
  refine Xg (S:=Nat) (fun i=>[(0,S Xc1),(2,.ptr a 0),(3,B false),(4,I i)]) (fun i G=>i≤4∧Has G [(a,⟨Xda i,154,true⟩)]) (fun i=>4 - i) 0
    (.cons rfl (.cons rfl (.cons rfl (.cons rfl (.nil _))))) ⟨Nat.zero_le _,hG⟩ ?_
  clear hG
  rintro i G ⟨hi,hG⟩
  by_cases hil:i < 4
  · have hb:Xd Xc1 ((i:Nat):Int).toNat < 128:=hlo i hil
    have hcl:=Xc2 i
    have hle:Nat.ble (0+(((Xd Xc1 ((i:Nat):Int).toNat:Nat):Int).toNat * 1)+(cellsOf (B true)).length) (Blk.mk (Xda i) 154 true).cells.length=true:=by
      show Nat.ble (0+(((Xd Xc1 ((i:Nat):Int).toNat:Nat):Int).toNat * 1)+1) (Xda i).length=true
      rw [hcl]
      exact Nat.ble_eq_true_of_le (by omega)
    have hcs:X6 (Xda i) (0+(((Xd Xc1 ((i:Nat):Int).toNat:Nat):Int).toNat * 1)) (cellsOf (B true))=Xda (i+1):=by
      show (Xda i).set (0+(((Xd Xc1 i:Nat):Int).toNat * 1)) (B true)=(Xda i).set (Xd Xc1 i) (B true)
      congr 1;simp
    have hbz:Xc1.size=4:=rfl
    repeat(first|refine Zd1 ?_|refine ZJ ?_|refine Xj rfl rfl (by decide) (XeL rfl rfl rfl (by omega)) ?_|refine Xj rfl rfl (by decide) (Xgr rfl rfl rfl rfl (by omega)) ?_|(refine XbI 0 hG rfl rfl rfl rfl rfl rfl rfl rfl rfl (by exact hle) (by exact hcs) ?_;intro G hG)|refine ZO ?_)
    exact ZbN
  · have hi4:i=4:=by omega
    subst hi4
    have hl:=Xc2 4
    have h1:=XiV 4
    have hbe:Nat.beq (cellsOf (PV.agg (Xda 4))).length 256=true:=by
      show Nat.beq (Xda 4).length 256=true
      rw [hl];rfl
    have hle:Nat.ble (0+(cellsOf (PV.agg (Xda 4))).length) (Blk.mk (Xda 4) 154 true).cells.length=true:=by
      show Nat.ble (0+(Xda 4).length) (Xda 4).length=true
      rw [hl];rfl
    have hcs:X6 (Xda 4) 0 (cellsOf (PV.agg (Xda 4)))=Xda 4:=Xj9 _ _ rfl
    have hld:=Xr0 4
    have hBs:=Xpd 4
    generalize Xda 4=C at *
    repeat(first|refine Zd1 ?_|refine Xbl 0 hG rfl rfl (by decide) rfl rfl rfl (by exact hld) ?_|(refine XbI 0 hG rfl rfl rfl rfl rfl rfl (by exact hbe) (by exact h1) rfl (by exact hle) (by exact hcs) ?_;intro G hG)|refine ZO ?_)
    have hG:Has G [(a,⟨C,154,true⟩)]:=hG
    exact Xfr rfl rfl ((XaR (hG.get 0 _ _ rfl)).trans (by exact hld)) rfl (.refl _) (.refl _) (Xi.agg fun c hc=>by
      obtain ⟨b,rfl⟩:=hBs c hc
      exact XcJ b) (XcJ _) rfl
end Go.Proofs.YtlcphjcpoinolaaGreat
namespace Go.Proofs.YtlcphjcpoinolaaGreat
open Go.RowKit Go.Th
set_option maxRecDepth 20000
theorem Xpc:∀ c ∈ Xda 4,Xi c:=fun c hc=>by
  obtain ⟨b,rfl⟩:=Xpd 4 c hc
  exact XcJ b
theorem Xjx {H:Xh} (b:Nat) (hb:b < 256):Xd2 .bool 1 H (.ept (Xda 4) (0+((b:Int).toNat * 1)))=some (B (XdX b)):=by
  have h:=Xui b hb
  have e:0+((b:Int).toNat * 1)=b:=by simp
  rw [e]
  have ht:Xai 1 ((Xda 4).drop b)=some [B (XdX b)]:=by
    rw [Xaq]
    have hl:=Xc2 4
    refine ⟨by rw [List.length_drop,hl];omega,?_⟩
    have hlt:b < (Xda 4).length:=by rw [hl];exact hb
    rw [List.drop_eq_getElem_cons hlt]
    rw [List.getElem?_eq_getElem hlt] at h
    rw [Option.some.inj h];rfl
  show (match Xdl .bool with
    | true=>match Xai 1 ((Xda 4).drop b) with
      | some cs=>some (PV.agg cs)
      | none=>none
    | false=>match Xai 1 ((Xda 4).drop b) with
      | some [c]=>some c
      | _=>none)=_
  rw [ht];rfl
theorem XkW (b:Nat) (hb:b < 256):Iso Tryz.prog 78 [.ept (Xda 4) 0,.v (.int .u8 (b:Int))] (fun p=>p=B (XdX b)):=by
  have hG:=Xc
  refine Xb Tryz.func78 rfl rfl rfl ?_
  repeat(first|refine Zd1 ?_|refine Zad ?_|refine Xj rfl rfl (by decide) (Xgr rfl rfl rfl rfl (by omega)) ?_|refine Xj rfl rfl (by decide) (XaS rfl rfl (Xjx b hb)) ?_)
  exact Zbm
theorem Xrq (n:Nat) (hn:n≤100000):Iso Tryz.prog 76 [I n] (fun p=>p=B (decide (8 < n))):=by
  have hG:=Xc
  refine Xb Tryz.func76 rfl rfl rfl ?_
  repeat(first|refine Zd1 ?_|refine Z8 ?_)
  refine ZbO ?_
  have e:decide ((8:Int) < n)=decide (8 < n):=by simp;omega
  exact congrArg B e
def vrF (r:Int):Bool:=decide ((0≤r∧r < 55296)∨(57343 < r∧r≤1114111))
theorem XjY (r:Int) (h0:0≤r) (h1:r≤1114111):Iso Tryz.prog 137 [.v (.int .i32 r)] (fun p=>p=B (vrF r)):=by
  have hG:=Xc
  refine Xb Tryz.func137 rfl rfl rfl ?_
  unfold vrF
  by_cases c1:r < 55296
  · repeat(first|refine Zd1 ?_)
    refine ZbO ?_
    congr 1;simp;omega
  by_cases c2:57343 < r
  · repeat(first|refine Zd1 ?_)
    refine ZbO ?_
    congr 1;simp;omega
  · repeat(first|refine Zd1 ?_)
    refine ZbO ?_
    congr 1;simp;omega
end Go.Proofs.YtlcphjcpoinolaaGreat
