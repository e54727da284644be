/- Part of the proof: the walk over the program and its laws: Pt Jb. -/
import Derived.Laws.Runes
import Derived.Test.YtlcphjcpoinolaaGreatP0
import Derived.Test.YtlcphjcpoinolaaGreatP30
import Derived.Test.YtlcphjcpoinolaaGreatP31
import Derived.Test.YtlcphjcpoinolaaGreatP34
set_option linter.unusedVariables false
namespace Go.Proofs.YtlcphjcpoinolaaGreat
open Go.RowKit Go.Th
set_option maxRecDepth 20000
theorem XgK (a:Nat) (k:Nat) (hk:k≤32) (ha:a < 4611686018427387904):Xgn .i64 (a:Nat) ((2 ^ k - 1:Nat):Int)=((a % 2 ^ k:Nat):Int):=by
  have hp:2 ^ k≤2 ^ 32:=Nat.pow_le_pow_right (by decide) hk
  have h32:(2:Nat) ^ 32=4294967296:=by decide
  have h1:0 < 2 ^ k:=Nat.two_pow_pos k
  unfold Xgn
  have e1:(BitVec.ofInt 64 ((a:Nat):Int)).toNat=a:=by
    rw [BitVec.ofInt_natCast,BitVec.toNat_ofNat];exact Nat.mod_eq_of_lt (by omega)
  have e2:(BitVec.ofInt 64 ((2 ^ k - 1:Nat):Int)).toNat=2 ^ k - 1:=by
    rw [BitVec.ofInt_natCast,BitVec.toNat_ofNat];exact Nat.mod_eq_of_lt (by omega)
  show IntKind.i64.wrap (((BitVec.ofInt 64 _ &&& BitVec.ofInt 64 _).toNat:Nat):Int)=_
  rw [BitVec.toNat_and,e1,e2,Nat.and_two_pow_sub_one_eq_mod]
  have:=Nat.mod_lt a h1
  rw [IntKind.wrap_i64];omega
theorem Xmy (a:Nat) (ha:a < 4611686018427387904):Xgn .i64 (a:Nat) 63=((a % 64:Nat):Int):=XgK a 6 (by decide) ha
theorem Xe1 (a k:Nat) (hk:k≤32):XgU .i64 (a:Nat) (k:Nat)=((a / 2 ^ k:Nat):Int):=by
  unfold XgU
  have:min ((k:Nat):Int).toNat IntKind.i64.bits=k:=by
    show min ((k:Nat):Int).toNat 64=k
    simp;omega
  rw [this,Int.fdiv_eq_ediv_of_nonneg _ (by exact_mod_cast Nat.zero_le _)]
  exact_mod_cast rfl
theorem shl6 (a:Nat) (ha:a < 1048576):Xs7 .i64 (a:Nat) 6=((a * 64:Nat):Int):=by
  unfold Xs7
  show IntKind.i64.wrap ((a:Int) * 2 ^ (min (6:Int).toNat 64))=_
  have:min (6:Int).toNat 64=6:=by decide
  rw [this,IntKind.wrap_i64]
  omega
theorem or6 (a b:Nat) (ha:a < 1048576) (hb:b < 64):orK .i64 ((a * 64:Nat):Int) (b:Nat)=((a * 64+b:Nat):Int):=by
  unfold orK
  have e1:(BitVec.ofInt 64 ((a * 64:Nat):Int)).toNat=a * 64:=by
    rw [BitVec.ofInt_natCast,BitVec.toNat_ofNat];exact Nat.mod_eq_of_lt (by omega)
  have e2:(BitVec.ofInt 64 ((b:Nat):Int)).toNat=b:=by
    rw [BitVec.ofInt_natCast,BitVec.toNat_ofNat];exact Nat.mod_eq_of_lt (by omega)
  show IntKind.i64.wrap (((BitVec.ofInt 64 _ ||| BitVec.ofInt 64 _).toNat:Nat):Int)=_
  rw [BitVec.toNat_or,e1,e2]
  have e3:a * 64 ||| b=a * 64+b:=by
    have:=Nat.shiftLeft_add_eq_or_of_lt (i:=6) (b:=b) (by omega:b < 2 ^ 6) a
    rw [Nat.shiftLeft_eq] at this
    exact this.symm
  rw [e3,IntKind.wrap_i64];omega
theorem XyC:∀ x:Fin 32,orK .u8 192 (x.val:Nat)=((192+x.val:Nat):Int):=by decide +kernel
theorem XyB:∀ x:Fin 16,orK .u8 224 (x.val:Nat)=((224+x.val:Nat):Int):=by decide +kernel
theorem XyA:∀ x:Fin 8,orK .u8 240 (x.val:Nat)=((240+x.val:Nat):Int):=by decide +kernel
theorem Xih:∀ x:Fin 64,orK .u8 128 (x.val:Nat)=((128+x.val:Nat):Int):=by decide +kernel
theorem XcG (x:Nat) (h:x < 256):IntKind.u8.wrap (x:Nat)=((x:Nat):Int):=by
  have:IntKind.u8.wrap ((x:Nat):Int)=((x:Nat):Int) % 256:=by
    unfold IntKind.wrap
    simp [IntKind.bits,IntKind.signed]
  rw [this];omega
theorem Xs3 (b:Nat):(b < 128∧tlN b=1)∨tlN b=0∨(194≤b∧b≤223∧tlN b=2)∨(224≤b∧b≤239∧tlN b=3)∨(240≤b∧b≤244∧tlN b=4):=by
  unfold tlN
  (repeat' split) <;> omega
theorem XoA {s:ByteArray} {i n:Nat} {p:Int} (h:Xgw s i=(p,n,true)) :
    (n=1∧p=(Xd s i:Nat)∧Xd s i < 128) ∨
    (n=2∧i+1 < s.size∧194≤Xd s i∧Xd s i≤223∧128≤Xd s (i+1)∧Xd s (i+1)≤191∧p=((Xd s i % 32 * 64+Xd s (i+1) % 64:Nat):Int)) ∨
    (n=3∧i+2 < s.size∧224≤Xd s i∧Xd s i≤239∧128≤Xd s (i+1)∧Xd s (i+1)≤191∧(Xd s i=224→160≤Xd s (i+1))∧(Xd s i=237→Xd s (i+1)≤159)∧128≤Xd s (i+2)∧Xd s (i+2)≤191 ∧
      p=(((Xd s i % 16 * 64+Xd s (i+1) % 64) * 64+Xd s (i+2) % 64:Nat):Int)) ∨
    (n=4∧i+3 < s.size∧240≤Xd s i∧Xd s i≤244∧128≤Xd s (i+1)∧Xd s (i+1)≤191∧(Xd s i=240→144≤Xd s (i+1))∧(Xd s i=244→Xd s (i+1)≤143)∧128≤Xd s (i+2)∧Xd s (i+2)≤191∧128≤Xd s (i+3)∧Xd s (i+3)≤191 ∧
      p=((((Xd s i % 8 * 64+Xd s (i+1) % 64) * 64+Xd s (i+2) % 64) * 64+Xd s (i+3) % 64:Nat):Int)):=by
  have hb0:=Xav s i
  have hb1:=Xav s (i+1)
  have hb2:=Xav s (i+2)
  have hb3:=Xav s (i+3)
  have step:∀ {n f k:Nat} {p q:Int} {lo hi m:Nat},k < n→XhX s i n (f+1) k p lo hi=(q,m,true)→i+k < s.size∧lo≤Xd s (i+k)∧Xd s (i+k)≤hi∧XhX s i n f (k+1) (orK .i64 (Xs7 .i64 p 6) (Xgn .i64 (Xd s (i+k):Nat) 63)) 128 191=(q,m,true):=by
    intro n f k p q lo hi m hk hd
    rw [XhX,if_pos hk] at hd
    split at hd
    · simp at hd
    split at hd
    · simp at hd
    split at hd
    · simp at hd
    exact ⟨by omega,by omega,by omega,hd⟩
  have stop:∀ {n f k:Nat} {p q:Int} {lo hi m:Nat},¬ k < n→XhX s i n f k p lo hi=(q,m,true)→q=p∧m=k:=by
    intro n f k p q lo hi m hk hd
    cases f with
    | zero=>rw [XhX] at hd;cases hd;exact ⟨rfl,rfl⟩
    | succ f=>rw [XhX,if_neg hk] at hd;cases hd;exact ⟨rfl,rfl⟩
  have glue:∀ a b:Nat,a < 1048576→b < 256→orK .i64 (Xs7 .i64 (a:Nat) 6) (Xgn .i64 (b:Nat) 63)=((a * 64+b % 64:Nat):Int):=fun a b ha hb=>by
    rw [shl6 a ha,Xmy b (by omega),or6 a (b % 64) ha (by omega)]
  have m2:Xgn .i64 (Xd s i:Nat) (XgU .i64 127 ((2:Nat):Int))=((Xd s i % 32:Nat):Int):=by
    have:XgU .i64 127 ((2:Nat):Int)=((2 ^ 5 - 1:Nat):Int):=by decide +kernel
    rw [this];exact XgK _ 5 (by decide) (by omega)
  have m3:Xgn .i64 (Xd s i:Nat) (XgU .i64 127 ((3:Nat):Int))=((Xd s i % 16:Nat):Int):=by
    have:XgU .i64 127 ((3:Nat):Int)=((2 ^ 4 - 1:Nat):Int):=by decide +kernel
    rw [this];exact XgK _ 4 (by decide) (by omega)
  have m4:Xgn .i64 (Xd s i:Nat) (XgU .i64 127 ((4:Nat):Int))=((Xd s i % 8:Nat):Int):=by
    have:XgU .i64 127 ((4:Nat):Int)=((2 ^ 3 - 1:Nat):Int):=by decide +kernel
    rw [this];exact XgK _ 3 (by decide) (by omega)
  unfold Xgw at h
  dsimp only at h
  by_cases t0:tlN (Xd s i)=0
  · rw [if_pos t0] at h;cases h
  rw [if_neg t0] at h
  by_cases t1:tlN (Xd s i)=1
  · rw [if_pos t1] at h
    cases h
    exact .inl ⟨rfl,rfl,by have:=Xs3 (Xd s i);omega⟩
  rw [if_neg t1] at h
  have tl:tlN (Xd s i)=2∧194≤Xd s i∧Xd s i≤223∨tlN (Xd s i)=3∧224≤Xd s i∧Xd s i≤239∨tlN (Xd s i)=4∧240≤Xd s i∧Xd s i≤244:=by
    have:=Xs3 (Xd s i)
    omega
  have lo_:∀ c,Xfk c=if c=224 then 160 else if c=240 then 144 else 128:=fun c=>rfl
  have hi_:∀ c,Xfl c=if c=237 then 159 else if c=244 then 143 else 191:=fun c=>rfl
  rcases tl with ⟨e,r1,r2⟩ | ⟨e,r1,r2⟩ | ⟨e,r1,r2⟩
  · rw [e,m2] at h
    obtain ⟨a1,a2,a3,h⟩:=step (by omega) h
    rw [lo_,if_neg (by omega),if_neg (by omega)] at a2
    rw [hi_,if_neg (by omega),if_neg (by omega)] at a3
    obtain ⟨q1,q2⟩:=stop (by omega) h
    rw [glue _ _ (by omega) hb1] at q1
    exact .inr (.inl ⟨q2,a1,r1,r2,a2,a3,q1⟩)
  · rw [e,m3] at h
    obtain ⟨a1,a2,a3,h⟩:=step (by omega) h
    obtain ⟨b1,b2,b3,h⟩:=step (by omega) h
    obtain ⟨q1,q2⟩:=stop (by omega) h
    rw [glue _ _ (by omega) hb1,glue _ _ (by omega) hb2] at q1
    rw [lo_] at a2
    rw [hi_] at a3
    refine .inr (.inr (.inl ⟨q2,b1,r1,r2,?_,?_,fun k=>?_,fun k=>?_,b2,b3,q1⟩))
    · (repeat' split at a2) <;> omega
    · (repeat' split at a3) <;> omega
    · rw [if_pos k] at a2;exact a2
    · rw [if_pos k] at a3;exact a3
  · rw [e,m4] at h
    obtain ⟨a1,a2,a3,h⟩:=step (by omega) h
    obtain ⟨b1,b2,b3,h⟩:=step (by omega) h
    obtain ⟨c1,c2,c3,h⟩:=step (by omega) h
    obtain ⟨q1,q2⟩:=stop (by omega) h
    rw [glue _ _ (by omega) hb1,glue _ _ (by omega) hb2,glue _ _ (by omega) hb3] at q1
    rw [lo_] at a2
    rw [hi_] at a3
    refine .inr (.inr (.inr ⟨q2,c1,r1,r2,?_,?_,fun k=>?_,fun k=>?_,b2,b3,c2,c3,q1⟩))
    · (repeat' split at a2) <;> omega
    · (repeat' split at a3) <;> omega
    · rw [if_neg (by omega),if_pos k] at a2;exact a2
    · rw [if_neg (by omega),if_pos k] at a3;exact a3
def Xgj (p:Nat):List Nat :=
  if p < 128 then [p] else if p < 2048 then [192+p / 64,128+p % 64] else if p < 65536 then [224+p / 4096,128+p / 64 % 64,128+p % 64] else [240+p / 262144,128+p / 4096 % 64,128+p / 64 % 64,128+p % 64]
def Xat (p:Nat):List UInt8:=(Xgj p).map UInt8.ofNat
def ptN (p:Nat):Prop:=p≤1114111∧p / 2048≠27
theorem XwF {s:ByteArray} {i n:Nat} {p:Int} (hi:i < s.size) (h:Xgw s i=(p,n,true)):∃ q:Nat,p=(q:Nat)∧ptN q∧Xgj q=(List.range n).map fun j=>Xd s (i+j):=by
  have hb0:=Xav s i
  rcases XoA h with ⟨rfl,hp,h1⟩ | ⟨rfl,h0,h1,h2,h3,h4,hp⟩ | ⟨rfl,h0,h1,h2,h3,h4,h5,h6,h7,h8,hp⟩ | ⟨rfl,h0,h1,h2,h3,h4,h5,h6,h7,h8,h9,h10,hp⟩
  · refine ⟨_,hp,⟨by omega,by omega⟩,?_⟩
    unfold Xgj
    rw [if_pos h1]
    rfl
  · refine ⟨_,hp,⟨by omega,by omega⟩,?_⟩
    unfold Xgj
    rw [if_neg (by omega),if_pos (by omega)]
    show _=[Xd s i,Xd s (i+1)]
    congr 1
    · omega
    · congr 1;omega
  · refine ⟨_,hp,⟨by omega,by omega⟩,?_⟩
    unfold Xgj
    rw [if_neg (by omega),if_neg (by omega),if_pos (by omega)]
    show _=[Xd s i,Xd s (i+1),Xd s (i+2)]
    congr 1
    · omega
    · congr 1
      · omega
      · congr 1;omega
  · refine ⟨_,hp,⟨by omega,by omega⟩,?_⟩
    unfold Xgj
    rw [if_neg (by omega),if_neg (by omega),if_neg (by omega)]
    show _=[Xd s i,Xd s (i+1),Xd s (i+2),Xd s (i+3)]
    congr 1
    · omega
    · congr 1
      · omega
      · congr 1
        · omega
        · congr 1;omega
end Go.Proofs.YtlcphjcpoinolaaGreat
namespace Go.Th
def XuJ (Q:QA):QA
  | .goto _,_,_=>False
  | e,E,H=>Q e E H
section
variable {P:Program} {b:Frame} {a:Act} {k:List Item} {cs:List Frame} {w:World}
theorem Xca {c:Code}:step P (lone (b.atR a (.code (.scope c)::k)) cs w)=.next (lone (b.atR a (.code c::.inScope c::k)) cs w) :=
  step_lone_go (by simp [stepG,stepG.exec,Frame.atR])
theorem XiS {c:Code}:step P (lone (b.atR a (.inScope c::k)) cs w)=.next (lone (b.atR a k) cs w) :=
  step_lone_go (by simp [stepG,stepG.exec,Frame.atR])
end
theorem XeW {P:Program} {F:Fence} {n:Nat} {a:Act} {w:World} {Q:Exit→Act→World→Prop} {c:Code} (h:c.wpIn F n P (Exit.noGoto Q) a w):(Code.scope c).wpIn F n P Q a w:=by
  intro b k cs hro hb hr
  have h0:(lone (b.atR a (.code (.scope c)::k)) cs w).fenced P F:=fenced_calm hb hr rfl
  obtain ⟨e,a₁,w₁,hq,harr⟩:=h b (.inScope c::k) cs hro hb hr
  cases e with
  | normal=>exact ⟨.normal,a₁,w₁,hq,.head h0 Xca (StepsIn.trans harr (.one (fenced_calm hb hr rfl) XiS))⟩
  | exit id =>
    have hx:exitTo id (.inScope c::k)=exitTo id k:=by simp [exitTo]
    exact ⟨.exit id,a₁,w₁,hq,fun k' hk=>.head h0 Xca (harr.1 k' (by rw [hx];exact hk)),
      fun hr' hk=>let ⟨k₁,h1,h2⟩:=harr.2 hr' (by rw [hx];exact hk);⟨k₁,h1,.head h0 Xca h2⟩⟩
  | goto l=>exact hq.elim
  | ret=>exact ⟨_,a₁,w₁,hq,.of_steps (.one h0 Xca) harr⟩
  | panic ch=>exact ⟨_,a₁,w₁,hq,.of_steps (.one h0 Xca) harr⟩
  | outgrown=>exact ⟨_,a₁,w₁,hq,.of_steps (.one h0 Xca) harr⟩
theorem XjV {P:Program} {n:Nat} {Q:QA} {E:Env} {H:Xh} {c:Code} (h:wpA P n c (XuJ Q) E H):wpA P n (.scope c) Q E H:=fun rd m0 w0 a w hat =>
  XeW (wpIn_mono (h rd m0 w0 a w hat) (by
    rintro e a' w' ⟨E',H',hq,hat'⟩
    cases e with
    | goto l=>exact hq.elim
    | normal=>exact ⟨E',H',hq,hat'⟩
    | exit id=>exact ⟨E',H',hq,hat'⟩
    | ret=>exact ⟨E',H',hq,hat'⟩
    | panic c=>exact ⟨E',H',hq,hat'⟩
    | outgrown=>exact ⟨E',H',hq,hat'⟩))
end Go.Th
namespace Go.Proofs.YtlcphjcpoinolaaGreat
open Go.RowKit Go.Th
set_option maxRecDepth 20000
theorem Xom (s:ByteArray) (r:Nat) (hr:r < 128):Iso Tryz.prog 75 [S s,.v (.int .i32 (r:Int))] (fun p=>p=I (Lib.indexByte s.data.toList r.toUInt8)):=by
  have hG:=Xc
  have hk:=XdT s (r:Int)
  have e:((r:Nat):Int).toNat.toUInt8=r.toUInt8:=rfl
  rw [e] at hk
  have hw:=XcG r (by omega)
  have tk:∀ x ∈ [S s,.v (.int .u8 (r:Int))],Xi x:=TreeL.cons (XX _) (TreeL.cons (.v _) TreeL.nil)
  refine Xb Tryz.func75 rfl rfl rfl ?_
  repeat(first|refine Zd1 ?_|refine Zch ?_|(refine Zam ?_;rintro _ rfl))
  exact Zav
theorem Xkv:Iso Tryz.prog 75 [S Xc1,.v (.int .i32 65533)] (fun p=>p=I (-1)):=by
  have hG:=Xc
  have hsz:Xc1.size=4:=rfl
  have hd:∀ i,i < 4→(Utf8.decode Xc1 i).2=1∧(Utf8.decode Xc1 i).1 < 128:=by decide +kernel
  refine Xb Tryz.func75 rfl rfl rfl ?_
  repeat(first|refine Zd7 ?_)
  refine Zh ?_
  repeat(first|refine Zd1 ?_|(refine Xfi hG rfl rfl (by decide) rfl rfl ?_;intro it G hG))
  refine Xg (S:=Nat) (fun i=>[(175,.it it)]) (fun i G=>i≤4∧Has G [(it,Xm5 Xc1 i)]) (fun i=>4 - i) 0
    (.cons rfl (.nil _)) ⟨Nat.zero_le _,hG⟩ ?_
  clear hG
  rintro i G ⟨hi,hG⟩
  by_cases hil:i < 4
  · obtain ⟨d1,d2⟩:=hd i hil
    generalize hD:Utf8.decode Xc1 i=D at d1 d2
    obtain ⟨u,v⟩:=D
    dsimp only at d1 d2
    subst d1
    repeat(first|refine Zd1 ?_|(refine Xd5 0 hG rfl rfl (by decide) rfl rfl rfl (by omega) ?_;rw [hD];intro G hG)|refine ZS ?_|refine ZN ?_|refine ZU ?_)
    exact ⟨i+1,by omega,.cons rfl (.nil _),by omega,hG⟩
  · repeat(first|refine Zd1 ?_|refine ZdH ?_|refine ZS ?_)
    exact Zav
theorem XeQ:∀ (l:List UInt8) (c:Nat),128≤c→c < 256→(∀ x ∈ l,x.toNat < 128)→Lib.indexByte l c.toUInt8=-1
  | [],_,_,_,_=>rfl
  | b::l,c,h1,h2,h=>by
    have ih:=XeQ l c h1 h2 fun x hx=>h x (List.mem_cons_of_mem _ hx)
    have hb:=h b List.mem_cons_self
    have hne:(b == c.toUInt8)=false:=by
      refine beq_eq_false_iff_ne.2 fun e=>?_
      subst e
      have:(c.toUInt8).toNat=c:=by simp [Nat.toUInt8];omega
      omega
    simp [Lib.indexByte,hne,ih]
theorem XsE (n:Nat) (h:n < 4):∀ x ∈ (Xc1.extract n 4).data.toList,x.toNat < 128:=by
  have:∀ n:Fin 4,((Xc1.extract n.val 4).data.toList.all fun x=>decide (x.toNat < 128))=true:=by decide +kernel
  intro x hx
  exact of_decide_eq_true (List.all_eq_true.1 (this ⟨n,h⟩) x hx)
set_option maxHeartbeats 16000000 in
theorem Xon (r:Int) (h0:128≤r) (h1:r≤1114111) (h2:r≠65533):Iso Tryz.prog 75 [S Xc1,.v (.int .i32 r)] (fun p=>p=I (-1)):=by
  have hG:=Xc
  have hsz:Xc1.size=4:=rfl
  have hv:=XjY r (by omega) (by omega)
  have tv:∀ x ∈ [PV.v (.int .i32 r)],Xi x:=TreeL.cons (.v _) TreeL.nil
  refine Xb Tryz.func75 rfl rfl rfl ?_
  by_cases hvr:vrF r=true
  rotate_left
  · have hvr:vrF r=false:=by simpa using hvr
    rw [hvr] at hv
    repeat(first|refine Zd1 ?_|(refine Xr rfl rfl rfl rfl rfl rfl (by decide) hv tv ?_;rintro _ rfl))
    exact Zav
  rw [hvr] at hv
  have hval:Utf8.valid r=true:=by
    unfold vrF at hvr
    unfold Utf8.valid
    simp only [decide_eq_true_eq] at hvr
    simp
    omega
  obtain ⟨e1,e2,e3⟩:=encode_facts r hval (by omega)
  have e3:=e3 (by omega)
  obtain ⟨b,hb⟩:∃ b,b=Utf8.encode r:=⟨_,rfl⟩
  rw [← hb] at e1 e2
  have e4:∃ n:Nat,b.size=n+1∧1≤n∧n≤3:=⟨b.size - 1,by omega,by omega,by omega⟩
  obtain ⟨n,hn,n1,n3⟩:=e4
  obtain ⟨c,hc,c1,c2⟩:∃ c:Nat,Xd b n=c∧128≤c∧c < 256:=by
    refine ⟨_,rfl,?_,Xav _ _⟩
    have hlt:(Utf8.encode r).size - 1 < (Utf8.encode r).size:=by rw [← hb];omega
    have e:Xd b n=((Utf8.encode r)[(Utf8.encode r).size - 1]'hlt).toNat:=by
      have hn':n=b.size - 1:=by omega
      rw [hb] at hn'
      rw [hb,hn']
      unfold Xd
      rw [getElem?_pos (Utf8.encode r) _ hlt];rfl
    rw [e];exact e3
  clear e3 hval hvr
  have hbr:∀ i:Fin 4,Xd Xc1 i.val < 128:=by decide
  obtain ⟨d,hd,d1⟩:∃ d,Xd Xc1 n=d∧d < 128:=⟨_,rfl,hbr ⟨n,by omega⟩⟩
  have hix:=XdT (Xc1.extract (n+1) 4) (c:Int)
  have e:((c:Nat):Int).toNat.toUInt8=c.toUInt8:=rfl
  rw [e,XeQ _ c c1 c2 (fun x hx=>by
    by_cases h4:n+1 < 4
    · exact XsE (n+1) h4 x hx
    · have:n=3:=by omega
      subst this
      have:(Xc1.extract (3+1) 4).data.toList=[]:=by decide +kernel
      rw [this] at hx;cases hx)] at hix
  have tix:∀ x ∈ [S (Xc1.extract (n+1) 4),.v (.int .u8 (c:Int))],Xi x:=TreeL.cons (XX _) (TreeL.cons (.v _) TreeL.nil)
  repeat(first|refine Zd7 ?_)
  refine Zh ?_
  repeat(first|refine Zd7 ?_|(refine Xr rfl rfl rfl rfl rfl rfl (by decide) hv tv ?_;rintro _ rfl)|refine Zr ?_)
  refine XjV ?_
  repeat(first|refine Zd7 ?_|(refine Xj rfl rfl (by decide) (XmK rfl rfl) ?_;rw [← hb])|refine ZbM ?_|refine ZO ?_)
  clear hb hv tv
  have e8:((b.size:Nat):Int) - 1=(n:Int):=by omega
  refine Zh ?_
  refine Xg (S:=Unit) (fun _=>[(0,S Xc1),(7,S b),(8,I n),(9,I n)]) (fun _ G=>Has G []) (fun _=>0) ()
    (.cons rfl (.cons rfl (.cons (by rw [← e8];rfl) (.cons (by rw [← e8];rfl) (.nil _))))) hG ?_
  clear hG e8
  rintro _ G hG
  repeat(first|refine Zd7 ?_|refine ZO ?_|refine ZN ?_)
  refine Zh ?_
  skip
  refine XjV ?_
  repeat(first|refine Zc ?_)
  refine Zz ?_
  repeat(first|refine Y_q rfl rfl rfl (by decide) (XcV d rfl rfl rfl (by omega) (by exact hd)) ?_|refine ZdI ?_|refine Za1 ?_|refine Zd2 ?_)
  repeat(first|refine Zd7 ?_)
  refine Zz ?_
  repeat(first|refine ZdI ?_|refine Y_q rfl rfl rfl (by decide) (XbN (kl:=.i64) (kh:=.i64) (l:=n+1) (h:=4) rfl rfl rfl rfl ⟨by omega,by omega⟩) ?_|refine Y_k rfl rfl rfl (by decide) (fun _=>Iso.K rfl rfl rfl rfl hix tix) ?_|refine Zd2 ?_|refine Y_q rfl rfl rfl (by decide) (XhN rfl rfl rfl (by omega)) ?_)
  repeat(first|refine Zd1 ?_)
  exact Zav
end Go.Proofs.YtlcphjcpoinolaaGreat
