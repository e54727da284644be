/- Part of the proof: the walk over the program and its laws: Jc Jd Je. -/
import Derived.Test.YtlcphjcpoinolaaGreatP0
import Derived.Test.YtlcphjcpoinolaaGreatP35
import Derived.Test.YtlcphjcpoinolaaGreatP50
import Derived.Test.YtlcphjcpoinolaaGreatP30
import Derived.Test.YtlcphjcpoinolaaGreatP16
set_option linter.unusedVariables false
namespace Go.Proofs.YtlcphjcpoinolaaGreat
open Go.RowKit Go.Th
set_option maxRecDepth 20000
theorem XeF (s:ByteArray) (i:Nat) (h:i < s.size):(s.get! i).toNat=Xd s i:=by
  unfold Xd
  rw [getElem?_pos s i h]
  show (s.data[i]!).toNat=(s.data[i]).toNat
  rw [getElem!_pos s.data i h]
theorem XkV (s:ByteArray) (i:Nat) (h:i < s.size) :
    (Xd s i < 128∧Utf8.decode s i=(Xd s i,1)) ∨
    (128≤Xd s i∧128≤(Utf8.decode s i).1∧(Utf8.decode s i).1≤1114111∧1≤(Utf8.decode s i).2∧i+(Utf8.decode s i).2≤s.size∧∀ j,j < (Utf8.decode s i).2→128≤Xd s (i+j)):=by
  have g0:=XeF s i h
  by_cases c0:Xd s i < 128
  · refine .inl ⟨c0,?_⟩
    unfold Utf8.decode
    simp only [Nat.add_zero,g0]
    rw [if_pos c0]
  refine .inr ⟨by omega,?_⟩
  have g1:i+1 < s.size→(s.get! (i+1)).toNat=Xd s (i+1):=XeF s (i+1)
  have g2:i+2 < s.size→(s.get! (i+2)).toNat=Xd s (i+2):=XeF s (i+2)
  have g3:i+3 < s.size→(s.get! (i+3)).toNat=Xd s (i+3):=XeF s (i+3)
  have hlt:=Xav s i
  unfold Utf8.decode Utf8.runeError
  simp only [Nat.add_zero,g0]
  rw [if_neg c0]
  have one:∀ j,j < 1→128≤Xd s (i+j):=fun j hj=>by
    have:j=0:=by omega
    subst this;rw [Nat.add_zero];omega
  have bad:128≤((65533,1):Nat × Nat).1∧((65533,1):Nat × Nat).1≤1114111∧1≤((65533,1):Nat × Nat).2∧i+((65533,1):Nat × Nat).2≤s.size∧∀ j,j < ((65533,1):Nat × Nat).2→128≤Xd s (i+j) :=
    ⟨by decide,by decide,by decide,by dsimp only;omega,one⟩
  split
  · next hc =>
    simp only [Bool.and_eq_true,beq_iff_eq,decide_eq_true_eq] at hc
    obtain ⟨a1,a2,a3⟩:=hc
    rw [g1 a2] at a3 ⊢
    have:=Xav s (i+1)
    split
    · refine ⟨by dsimp only;omega,by dsimp only;omega,by dsimp only;omega,by dsimp only;omega,fun j hj=>?_⟩
      dsimp only at hj
      have:j=0∨j=1:=by omega
      rcases this with rfl | rfl
      · rw [Nat.add_zero];omega
      · omega
    · exact bad
  · split
    · next hc =>
      simp only [Bool.and_eq_true,beq_iff_eq,decide_eq_true_eq] at hc
      obtain ⟨⟨a1,a2,a3⟩,a4,a5⟩:=hc
      rw [g1 a2] at a3 ⊢
      rw [g2 a4] at a5 ⊢
      have:=Xav s (i+1)
      have:=Xav s (i+2)
      split
      · next hd =>
        simp only [Bool.and_eq_true,decide_eq_true_eq] at hd
        refine ⟨by dsimp only;omega,by dsimp only;omega,by dsimp only;omega,by dsimp only;omega,fun j hj=>?_⟩
        dsimp only at hj
        have:j=0∨j=1∨j=2:=by omega
        rcases this with rfl | rfl | rfl
        · rw [Nat.add_zero];omega
        · omega
        · omega
      · exact bad
    · split
      · next hc =>
        simp only [Bool.and_eq_true,beq_iff_eq,decide_eq_true_eq] at hc
        obtain ⟨⟨⟨a1,a2,a3⟩,a4,a5⟩,a6,a7⟩:=hc
        rw [g1 a2] at a3 ⊢
        rw [g2 a4] at a5 ⊢
        rw [g3 a6] at a7 ⊢
        have:=Xav s (i+1)
        have:=Xav s (i+2)
        have:=Xav s (i+3)
        split
        · next hd =>
          simp only [Bool.and_eq_true,decide_eq_true_eq] at hd
          have hv:=hd.2
          unfold Utf8.valid at hv
          simp at hv
          refine ⟨by dsimp only;omega,by dsimp only;omega,by dsimp only;omega,by dsimp only;omega,fun j hj=>?_⟩
          dsimp only at hj
          have:j=0∨j=1∨j=2∨j=3:=by omega
          rcases this with rfl | rfl | rfl | rfl
          · rw [Nat.add_zero];omega
          · omega
          · omega
          · omega
        · exact bad
      · exact bad
def Xxd (s:ByteArray) (r:Int):Prop:=(r=-1∧∀ j,j < s.size→XdX (Xd s j)=false)∨∃ i:Nat,r=i∧i < s.size∧XdX (Xd s i)=true∧∀ j,j < i→XdX (Xd s j)=false
theorem XsF (r:Nat) (hr:r < 128):XdX r=false∧Lib.indexByte Xc1.data.toList r.toUInt8=-1∨XdX r=true∧0≤Lib.indexByte Xc1.data.toList r.toUInt8:=by
  have:∀ r:Fin 128,XdX r.val=false∧Lib.indexByte Xc1.data.toList r.val.toUInt8=-1∨XdX r.val=true∧0≤Lib.indexByte Xc1.data.toList r.val.toUInt8:=by decide +kernel
  exact this ⟨r,hr⟩
theorem Xtt (b:Nat) (h:128≤b):XdX b=false:=by
  unfold XdX;exact decide_eq_false (by omega)
theorem Xkw (r:Nat) (h:r≤1114111):∃ k:Int,Iso Tryz.prog 75 [S Xc1,.v (.int .i32 (r:Int))] (fun p=>p=I k)∧(r < 128∧XdX r=true∧0≤k∨(r < 128→XdX r=false)∧k=-1):=by
  by_cases c1:r < 128
  · refine ⟨_,Xom Xc1 r c1,?_⟩
    rcases XsF r c1 with ⟨h1,h2⟩ | ⟨h1,h2⟩
    · exact .inr ⟨fun _=>h1,h2⟩
    · exact .inl ⟨c1,h1,h2⟩
  · refine ⟨-1,?_,.inr ⟨fun h=>absurd h c1,rfl⟩⟩
    by_cases c2:r=65533
    · subst c2;exact Xkv
    · exact Xon r (by omega) (by omega) (by omega)
set_option maxHeartbeats 16000000 in
theorem Xlh (s:ByteArray) (hs:s.size≤100000):Iso Tryz.prog 29 [S s,S Xc1] (fun p=>∃ r,p=I r∧Xxd s r):=by
  have hG:=Xc
  have hsz:Xc1.size=4:=rfl
  have h76:=Xrq s.size hs
  have hbe:Xff Xc1 ⟨#[]⟩=false:=by decide +kernel
  refine Xb Tryz.func29 rfl rfl rfl ?_
  by_cases c8:8 < s.size
  · have e:decide (8 < s.size)=true:=decide_eq_true c8
    rw [e] at h76
    have t77:∀ x ∈ [S Xc1],Xi x:=TreeL.cons (XX _) TreeL.nil
    have hset:=Xla
    have hl:=Xc2 4
    have h1:=XiV 4
    have ht:=Xpc
    repeat(first|refine Zd7 ?_|refine Xge rfl (by exact hbe) ?_|(refine ZdJ ?_;rintro _ rfl)|(refine Xr rfl rfl rfl rfl rfl rfl (by decide) hset t77 ?_;rintro _ rfl)|refine ZO ?_|refine Zck ?_|refine ZS ?_|(refine ZA ?_;intro G hG)|(refine ZD ?_;intro id G hG))
    have hset2:X6 (List.map PV.v Xo9) 0 (cellsOf (PV.agg (Xda 4)))=Xda 4:=Xj9 _ _ (by
      show (List.map PV.v Xo9).length=(Xda 4).length
      rw [hl];exact Xc2 0)
    have hG:Has G [(id,⟨X6 (List.map PV.v Xo9) 0 (cellsOf (PV.agg (Xda 4))),154,true⟩)]:=hG
    rw [hset2] at hG
    have hcon:=fun b hb=>XkW b hb
    have tC:Xi (.ept (Xda 4) 0):=Xi.ept ht
    refine XD 6 hG rfl ?_
    clear hG hset h1 hl ht hset2
    intro G hG
    dsimp only
    obtain ⟨C,hC⟩:∃ C,C=Xda 4:=⟨_,rfl⟩
    rw [← hC] at tC ⊢
    simp only [← hC] at hcon
    clear hC
    refine Zh ?_
    refine Xg (S:=Nat) (fun i=>[(0,S s),(6,.ept C 0),(8,I i)]) (fun i G=>i≤s.size∧(∀ j,j < i→XdX (Xd s j)=false)∧Has G []) (fun i=>s.size - i) 0
      (.cons rfl (.cons rfl (.cons rfl (.nil _)))) ⟨Nat.zero_le _,fun j h=>absurd h (Nat.not_lt_zero _),hG⟩ ?_
    clear hG
    rintro i G ⟨hi,hno,hG⟩
    by_cases hil:i < s.size
    · obtain ⟨b,hb⟩:∃ b,Xd s i=b:=⟨_,rfl⟩
      have hb2:b < 256:=hb ▸ Xav s i
      have hb':Xd s ((i:Nat):Int).toNat=b:=hb
      have hk:=hcon b hb2
      have tk:∀ x ∈ [.ept C 0,.v (.int .u8 (b:Int))],Xi x:=TreeL.cons tC (TreeL.cons (.v _) TreeL.nil)
      cases hbr:XdX b with
      | true =>
        rw [hbr] at hk
        repeat(first|refine Zd1 ?_|refine ZdK ?_|(refine Zam ?_;rintro _ rfl)|refine ZO ?_)
        exact XJ rfl rfl (.refl _) (Xe _) ⟨_,rfl,.inr ⟨i,rfl,hil,by rw [hb];exact hbr,hno⟩⟩
      | false =>
        rw [hbr] at hk
        repeat(first|refine Zd1 ?_|refine ZdK ?_|(refine Zam ?_;rintro _ rfl)|refine ZO ?_)
        refine ⟨i+1,by omega,.cons rfl (.cons rfl (.cons rfl (.nil _))),by omega,fun j hj=>?_,hG⟩
        by_cases hji:j < i
        · exact hno j hji
        · have:j=i:=by omega
          subst this;rw [hb];exact hbr
    · have hi':i=s.size:=by omega
      subst hi'
      repeat(first|refine Zd1 ?_|refine ZO ?_)
      exact XJ rfl rfl (.refl _) (Xe _) ⟨_,rfl,.inl ⟨rfl,hno⟩⟩
  · have e:decide (8 < s.size)=false:=decide_eq_false c8
    rw [e] at h76
    repeat(first|refine Zd1 ?_|refine Xge rfl (by exact hbe) ?_|(refine ZdJ ?_;rintro _ rfl)|(refine Xfi hG rfl rfl (by decide) rfl rfl ?_;intro it G hG)|refine ZO ?_|refine Zck ?_)
    refine Xg (S:=Nat) (fun i=>[(0,S s),(1,S Xc1),(45,.it it)]) (fun i G=>i≤s.size∧(∀ j,j < i→XdX (Xd s j)=false)∧Has G [(it,Xm5 s i)]) (fun i=>s.size - i) 0
      (.cons rfl (.cons rfl (.cons rfl (.nil _)))) ⟨Nat.zero_le _,fun j h=>absurd h (Nat.not_lt_zero _),hG⟩ ?_
    clear hG
    rintro i G ⟨hi,hno,hG⟩
    by_cases hil:i < s.size
    · have hdf:=XkV s i hil
      obtain ⟨u,v,hD⟩:∃ u v,Utf8.decode s i=(u,v):=⟨_,_,rfl⟩
      rw [hD] at hdf
      dsimp only at hdf
      have hu:u≤1114111:=by
        rcases hdf with ⟨a1,a2⟩ | ⟨a1,a2,a3,_⟩
        · injection a2 with a2 _;omega
        · exact a3
      obtain ⟨k,hk,hkk⟩:=Xkw u hu
      have tk:∀ x ∈ [S Xc1,.v (.int .i32 (u:Int))],Xi x:=TreeL.cons (XX _) (TreeL.cons (.v _) TreeL.nil)
      rcases hkk with ⟨b1,b2,b3⟩ | ⟨b1,b2⟩
      · have hu2:XdX (Xd s i)=true:=by
          rcases hdf with ⟨a1,a2⟩ | ⟨a1,a2,a3,_⟩
          · injection a2 with a2 _;rw [← a2];exact b2
          · omega
        clear hdf
        repeat(first|refine Zd1 ?_|(refine Xd5 0 hG rfl rfl (by decide) rfl rfl rfl (by omega) ?_;rw [hD];intro G hG)|(refine Zam ?_;rintro _ rfl)|refine ZS ?_)
        exact XJ rfl rfl (.refl _) (Xe _) ⟨_,rfl,.inr ⟨i,rfl,hil,hu2,hno⟩⟩
      · subst b2
        have hw:1≤v∧i+v≤s.size∧∀ j,j < i+v→XdX (Xd s j)=false:=by
          rcases hdf with ⟨a1,a2⟩ | ⟨a1,a2,a3,a4,a5,a6⟩
          · injection a2 with a2 a3
            subst a3
            refine ⟨by omega,by omega,fun j hj=>?_⟩
            by_cases hji:j < i
            · exact hno j hji
            · have:j=i:=by omega
              subst this;rw [← a2];exact b1 (by omega)
          · refine ⟨a4,a5,fun j hj=>?_⟩
            by_cases hji:j < i
            · exact hno j hji
            · have:=a6 (j - i) (by omega)
              rw [show i+(j - i)=j by omega] at this
              exact Xtt _ this
        obtain ⟨w1,w2,w3⟩:=hw
        clear hdf b1
        repeat(first|refine Zd1 ?_|(refine Xd5 0 hG rfl rfl (by decide) rfl rfl rfl (by omega) ?_;rw [hD];intro G hG)|(refine Zam ?_;rintro _ rfl)|refine ZS ?_|refine ZN ?_|refine ZU ?_)
        exact ⟨i+v,by omega,.cons rfl (.cons rfl (.cons rfl (.nil _))),by omega,w3,hG⟩
    · have hi':i=s.size:=by omega
      subst hi'
      repeat(first|refine Zd1 ?_|refine ZdH ?_|refine ZS ?_)
      exact XJ rfl rfl (.refl _) (Xe _) ⟨_,rfl,.inl ⟨rfl,hno⟩⟩
end Go.Proofs.YtlcphjcpoinolaaGreat
namespace Go.Proofs.YtlcphjcpoinolaaGreat
open Go.RowKit Go.Th
set_option maxRecDepth 20000
theorem Xo3 (a b:List UInt8):txt a++txt b=txt (a++b):=by
  apply ByteArray.ext
  unfold txt
  rw [ByteArray.data_append]
  simp
theorem Xaf (a:List UInt8):(txt a).size=a.length:=by
  unfold txt
  show a.toArray.size=_
  simp
theorem Xj1 (a:List UInt8) (j:Nat) (x:UInt8) (h:a[j]?=some x):Xd (txt a) j=x.toNat:=by
  have hl:j < a.length:=(List.getElem?_eq_some_iff.1 h).1
  unfold Xd
  have:(txt a)[j]?=some x:=by
    rw [getElem?_pos (txt a) j (by rw [Xaf];exact hl)]
    show some (a.toArray[j])=_
    rw [← h,List.getElem?_eq_getElem hl]
    simp
  rw [this];rfl
theorem Xdj:∀ (l m A:List Item),X8 A (l++m)=X8 (X8 A l) m
  | [],m,A=>rfl
  | x::l,m,A=>by rw [List.cons_append,X8,X8,Xdj l m]
theorem Xjp:eqv XcZ XcZ=true:=XbA _
theorem XrK (A:List Item) (a b:ByteArray):Xed (Xed A (itT a)) (itT b)=Xed A (itT (a++b)):=by
  have hz:=Xjp
  have hj:∀ a b,XcR (itT a) (itT b)=true:=fun a b=>by
    show (if (1:Int)=1 then (if (1:Int)=1 then eqv XcZ XcZ else false) else false)=true
    rw [if_pos rfl,if_pos rfl,hz]
  rcases List.eq_nil_or_concat A with rfl | ⟨ys,y,rfl⟩
  · rw [Xch,Xch]
    have:=XaG [] (itT a) (itT b)
    rw [List.nil_append] at this
    rw [this,hj,if_pos rfl];rfl
  · rw [List.concat_eq_append,XaG,XaG]
    obtain ⟨k,c,i,t,h,f,r⟩:=y
    have e1:XcR (.mk k c i t h f r) (itT (a++b))=XcR (.mk k c i t h f r) (itT a):=rfl
    rw [e1]
    by_cases hc:XcR (.mk k c i t h f r) (itT a)=true
    · rw [if_pos hc,if_pos hc,XaG]
      have e2:XcR (Xhc (.mk k c i t h f r) (itT a)) (itT b)=XcR (.mk k c i t h f r) (itT a):=rfl
      rw [e2,if_pos hc]
      show ys++[Item.mk k c i (t++a++b) h f r]=ys++[Item.mk k c i (t++(a++b)) h f r]
      rw [ByteArray.append_assoc]
    · rw [if_neg hc,if_neg hc,XaG,hj,if_pos rfl];rfl
theorem XpY {p:Nat} (h:XdX p=false):itN p=itT (txt (Xat p)):=by
  have h:=of_decide_eq_false h
  unfold itN
  rw [if_neg (by omega),if_neg (by omega),if_neg (by omega),if_neg (by omega)]
theorem Xnb:∀ (qs:List Nat) (A:List Item),qs≠[]→(∀ p ∈ qs,XdX p=false)→X8 A (qs.map itN)=Xed A (itT (txt (qs.flatMap Xat)))
  | [p],A,_,h=>by
    rw [List.map_cons,List.map_nil,X8,X8,XpY (h p List.mem_cons_self)]
    simp
  | p::p2::qs,A,_,h=>by
    rw [List.map_cons,X8,Xnb (p2::qs) _ (by simp) (fun x hx=>h x (List.mem_cons_of_mem _ hx)),XpY (h p List.mem_cons_self),XrK,Xo3,List.flatMap_cons (x:=p)]
inductive Pcs:List Item→List Nat→Prop
  | nil:Pcs [] []
  | txt {out q} (qs:List Nat) (h:Pcs out q) (h0:qs≠[]) (hb:∀ p ∈ qs,XdX p=false):Pcs (out++[itT (txt (qs.flatMap Xat))]) (q++qs)
  | brk {out q} (p:Nat) (h:Pcs out q) (hb:XdX p=true):Pcs (out++[itN p]) (q++[p])
theorem Xg4 (t:ByteArray):Xd1 (itT t)=itT t:=by
  unfold itT
  rw [Xd1,Xb2,Xci];rfl
theorem Xkl (p:Nat):Xd1 (itN p)=itN p:=by
  unfold itN
  split
  · unfold itP;rw [Xd1,Xb2,Xci];rfl
  split
  · unfold itB;rw [Xd1,Xb2,Xci];rfl
  split
  · unfold itB;rw [Xd1,Xb2,Xci];rfl
  split
  · unfold itB;rw [Xd1,Xb2,Xci];rfl
  · exact Xg4 _
theorem Xg3 (q:List Nat):Xb2 (q.map itN)=q.map itN:=by
  rw [XdE,List.map_map]
  exact List.map_congr_left fun p _=>Xkl p
theorem Pcs.merge {out:List Item} {q:List Nat} (h:Pcs out q):Xb2 out=out∧X8 [] out=X8 [] (q.map itN):=by
  induction h with
  | nil=>exact ⟨rfl,rfl⟩
  | txt qs _ h0 hb ih =>
    refine ⟨by rw [XdE,List.map_append,← XdE,ih.1,List.map_cons,List.map_nil,Xg4],?_⟩
    rw [List.map_append,Xdj,Xdj,ih.2,Xnb qs _ h0 hb,X8,X8]
  | brk p _ hb ih =>
    refine ⟨by rw [XdE,List.map_append,← XdE,ih.1,List.map_cons,List.map_nil,Xkl],?_⟩
    rw [List.map_append,Xdj,Xdj,ih.2];rfl
theorem Pcs.norm {out:List Item} {q:List Nat} (h:Pcs out q):XaF out=XaF (q.map itN):=by
  unfold XaF
  rw [h.merge.1,h.merge.2,Xg3]
theorem Xmh {p:Nat} (h:p < 128):Xat p=[UInt8.ofNat p]:=by
  unfold Xat Xgj;rw [if_pos h];rfl
theorem XeH (p:Nat):Xat p≠[]:=by
  unfold Xat Xgj
  split
  · simp
  split
  · simp
  split
  · simp
  · simp
theorem XwB {p:Nat} (hp:ptN p) (hb:XdX p=false):∀ x ∈ Xat p,XdX x.toNat=false:=by
  intro x hx
  by_cases h:p < 128
  · rw [Xmh h,List.mem_singleton] at hx
    subst hx
    have:(UInt8.ofNat p).toNat=p:=by simp;omega
    rw [this];exact hb
  refine Xtt _ ?_
  have hm:=hp.1
  unfold Xat Xgj at hx
  rw [if_neg h] at hx
  split at hx
  · simp only [List.map_cons,List.map_nil,List.mem_cons,List.not_mem_nil,or_false] at hx
    rcases hx with rfl | rfl <;> (simp;omega)
  split at hx
  · simp only [List.map_cons,List.map_nil,List.mem_cons,List.not_mem_nil,or_false] at hx
    rcases hx with rfl | rfl | rfl <;> (simp;omega)
  · simp only [List.map_cons,List.map_nil,List.mem_cons,List.not_mem_nil,or_false] at hx
    rcases hx with rfl | rfl | rfl | rfl <;> (simp;omega)
theorem XAL {p:Nat} (h:XdX p=true):p < 128:=by
  have h:=of_decide_eq_true h
  omega
theorem Xs9:∀ (qs:List Nat),(∀ p ∈ qs,ptN p)→(∀ p ∈ qs,XdX p=false)→∀ x ∈ qs.flatMap Xat,XdX x.toNat=false
  | qs,hp,hb,x,hx=>by
    obtain ⟨p,h1,h2⟩:=List.mem_flatMap.1 hx
    exact XwB (hp p h1) (hb p h1) x h2
theorem Xno:∀ (q:List Nat),(∀ p ∈ q,XdX p=false)∨∃ qs p r,q=qs++p::r∧(∀ p ∈ qs,XdX p=false)∧XdX p=true
  | []=>.inl fun p hp=>by cases hp
  | p::q=>by
    cases h:XdX p with
    | true=>exact .inr ⟨[],p,q,rfl,(fun p hp=>absurd hp List.not_mem_nil),h⟩
    | false =>
      rcases Xno q with h2 | ⟨qs,p2,r,e,h2,h3⟩
      · refine .inl fun x hx=>?_
        rcases List.mem_cons.1 hx with rfl | hx
        · exact h
        · exact h2 x hx
      · subst e
        refine .inr ⟨p::qs,p2,r,rfl,fun x hx=>?_,h3⟩
        rcases List.mem_cons.1 hx with rfl | hx
        · exact h
        · exact h2 x hx
theorem Xrj (a:List UInt8) (j:Nat) (hj:j < a.length):Xd (txt a) j=(a[j]).toNat:=Xj1 a j _ (List.getElem?_eq_getElem hj)
theorem XsK {q:List Nat} {r:Int} (hp:∀ p ∈ q,ptN p) (hb:∀ p ∈ q,XdX p=false) (h:Xxd (txt (q.flatMap Xat)) r):r=-1:=by
  rcases h with ⟨h,_⟩ | ⟨i,_,h2,h3,_⟩
  · exact h
  · rw [Xaf] at h2
    rw [Xrj _ _ h2] at h3
    have:=Xs9 q hp hb _ (List.getElem_mem h2)
    rw [this] at h3;cases h3
theorem XsJ {qs r:List Nat} {p:Nat} {k:Int} (hp:∀ x ∈ qs,ptN x) (hb:∀ x ∈ qs,XdX x=false) (hpb:XdX p=true) (h:Xxd (txt ((qs++p::r).flatMap Xat)) k):k=((qs.flatMap Xat).length:Nat):=by
  have hl:=XAL hpb
  have e:(qs++p::r).flatMap Xat=qs.flatMap Xat++UInt8.ofNat p::r.flatMap Xat:=by
    rw [List.flatMap_append,List.flatMap_cons,Xmh hl];rfl
  rw [e] at h
  generalize r.flatMap Xat=m at h
  have hnb:=Xs9 qs hp hb
  generalize qs.flatMap Xat=a at h hnb ⊢
  have hup:(UInt8.ofNat p).toNat=p:=by simp;omega
  have hat:Xd (txt (a++UInt8.ofNat p::m)) a.length=p:=by
    rw [Xj1 _ _ (UInt8.ofNat p) (by simp),hup]
  have hsz:(txt (a++UInt8.ofNat p::m)).size=a.length+1+m.length:=by rw [Xaf];simp;omega
  rcases h with ⟨_,h⟩ | ⟨i,rfl,h2,h3,h4⟩
  · have:=h a.length (by omega)
    rw [hat,hpb] at this;cases this
  · by_cases c1:i < a.length
    · rw [Xj1 _ _ (a[i]) (by rw [List.getElem?_append_left c1];exact List.getElem?_eq_getElem c1)] at h3
      rw [hnb _ (List.getElem_mem c1)] at h3;cases h3
    · by_cases c2:a.length < i
      · have:=h4 a.length c2
        rw [hat,hpb] at this;cases this
      · have:i=a.length:=by omega
        rw [this]
end Go.Proofs.YtlcphjcpoinolaaGreat
namespace Go.Proofs.YtlcphjcpoinolaaGreat
open Go.RowKit Go.Th
set_option maxRecDepth 20000
theorem Pcs.len {out:List Item} {q:List Nat} (h:Pcs out q):out.length≤q.length:=by
  induction h with
  | nil=>exact Nat.le_refl _
  | txt qs _ h0 _ ih =>
    have:0 < qs.length:=List.length_pos_iff.2 h0
    simp only [List.length_append,List.length_singleton];omega
  | brk p _ _ ih=>simp only [List.length_append,List.length_singleton];omega
theorem Xm3 (a b:List UInt8):(txt (a++b)).extract 0 a.length=txt a:=by
  apply ByteArray.ext
  unfold txt
  rw [ByteArray.data_extract]
  simp
theorem XiP (a b:List UInt8):(txt (a++b)).extract a.length (txt (a++b)).size=txt b:=by
  apply ByteArray.ext
  rw [Xaf]
  unfold txt
  rw [ByteArray.data_extract]
  simp
theorem Xs1 {a:List UInt8} (h:a≠[]):Xff (txt a) ⟨#[]⟩=false:=by
  cases e:Xff (txt a) ⟨#[]⟩ with
  | false=>rfl
  | true =>
    have:=(Xfn _ _).1 e
    have h2:(txt a).size=0:=by rw [this];rfl
    rw [Xaf] at h2
    exact absurd (List.eq_nil_of_length_eq_zero h2) h
def itR (k c:Int) (t:ByteArray):List PV:=[I k,I c,I 0,S t,Xaw,I 0,I 0,Xaw,Xaw,Xaw,Xaw]
def XAX:ByteArray:=⟨#[0,11,12,9]⟩
structure FtS where
  q2:List Nat
  out:List Item
  cs:List PV
  o:Nat
set_option maxHeartbeats 32000000 in
theorem XsV (s:ByteArray) (q:List Nat) (hs:s=txt (q.flatMap Xat)) (hp:∀ p ∈ q,ptN p) (hsz:(q.flatMap Xat).length≤100000) (hv:XaZ s=true) (hcn:Xcu s≤16384) (hlen:q.length≤1000000)
    (hnm:∀ out,Pcs out q→Iso Tryz.prog 32 [Xk out] (fun p=>p=Xk (XaF (q.map itN)))):Iso Tryz.prog 9 [S s] (fun p=>p=.tup [.agg [Xk (XaF (q.map itN)),Xaw,Xaw],I 0]):=by
  have hG:=Xc
  have hss:s.size=(q.flatMap Xat).length:=by rw [hs,Xaf]
  have hct:=XhQ s (by omega)
  rw [hv,if_pos rfl,if_pos rfl] at hct
  have ts:∀ c ∈ [S s],Xi c:=TreeL.cons (XX _) TreeL.nil
  obtain ⟨J,hJ⟩:∃ J,J=XaF (q.map itN):=⟨_,rfl⟩
  rw [← hJ] at hnm ⊢
  generalize Xcu s=n at hct hcn
  refine Xb Tryz.func9 rfl rfl rfl ?_
  repeat(first|refine Zd7 ?_|(refine Xr rfl rfl rfl rfl rfl rfl (by decide) hct ts ?_;rintro _ rfl)|refine ZB ?_|refine ZS ?_|(refine ZD ?_;intro id G hG))
  subst hs
  have hG:Has G [(id,⟨[Xaw,Xaw,Xaw],26,true⟩)]:=hG
  refine XQ 6 46 11 hG rfl ?_
  clear hG
  intro o G hG
  clear hct ts
  refine Zh ?_
  refine Xg (S:=FtS) (fun st=>[(0,S (txt (st.q2.flatMap Xat))),(2,.ptr id 0),(6,.sl st.o 0 st.out.length 11)])
    (fun st G=>∃ q1,q=q1++st.q2∧Pcs st.out q1∧WkL st.cs (st.out.flatMap Xl)∧Has G [(st.o,⟨st.cs,46,true⟩),(id,⟨[Xaw,Xaw,Xaw],26,true⟩)]) (fun st=>st.q2.length) ⟨q,[],[],o⟩
    (.cons rfl (.cons rfl (.cons rfl (.nil _)))) ⟨[],rfl,.nil,.nil,hG⟩ ?_
  clear hG
  rintro ⟨q2,out,cs,o⟩ G ⟨q1,e1,hpc,hwk,hG⟩
  dsimp only at e1 hpc hwk hG
  dsimp only
  have hp2:∀ p ∈ q2,ptN p:=fun p h=>hp p (by rw [e1];exact List.mem_append_right _ h)
  have hl2:(q2.flatMap Xat).length≤100000:=by
    rw [e1,List.flatMap_append,List.length_append] at hsz;omega
  have hol:out.length≤1000000:=by
    have:=hpc.len
    rw [e1,List.length_append] at hlen;omega
  have hcl:cs.length=out.length * 11:=by
    have:=hwk.all.1
    rw [XC XU] at this;omega
  have hia:=Xlh (txt (q2.flatMap Xat)) (by rw [Xaf];omega)
  have tia:∀ x ∈ [S (txt (q2.flatMap Xat)),S Xc1],Xi x:=TreeL.cons (XX _) (TreeL.cons (XX _) TreeL.nil)
  cases q2 with
  | nil =>
    rw [List.append_nil] at e1
    subst e1
    have hnm:=hnm out hpc
    clear hia tia hp2 hl2
    refine Xgz 0 hG rfl hwk ?_
    clear hG
    intro G hG
    have hG:Has G [(o,⟨out.flatMap Xl,46,true⟩),(id,⟨[Xaw,Xaw,Xaw],26,true⟩)]:=hG
    have hne:Xff (txt (List.flatMap Xat [])) ⟨#[]⟩=true:=by decide +kernel
    have hne2:(!Xff (txt (List.flatMap Xat [])) ⟨#[]⟩)=false:=by rw [hne];rfl
    repeat(first|refine Zd1 ?_|refine Xge rfl (by exact hne2) ?_|refine Zbz ?_)
    refine XgO 56 rfl (hG.get 0 _ _ rfl) (Xd6 (by rw [XC XU])) (q:=Xk out) rfl ?_
    have hG:=hG.forget
    refine ZdU ?_
    rintro _ rfl
    repeat(first|refine Zd1 ?_|refine Z5 ?_|(refine ZA ?_;intro G hG))
    exact Xfr rfl rfl (XaR (hG.get 0 _ _ rfl)) rfl (.refl _) (.refl _) (Xi.agg (TreeL.cons (XF _) (TreeL.cons (.v _) (TreeL.cons (.v _) TreeL.nil)))) (Xe _) rfl
  | cons p0 r0 =>
    have hne:Xff (txt (List.flatMap Xat (p0::r0))) ⟨#[]⟩=false:=Xs1 (by
      rw [List.flatMap_cons]
      intro h
      exact XeH p0 (List.append_eq_nil_iff.1 h).1)
    have hne2:(!Xff (txt (List.flatMap Xat (p0::r0))) ⟨#[]⟩)=true:=by rw [hne];rfl
    have hu8:∀ (t:ByteArray) (cs':List PV) (x:Item),WkL (itR 1 0 t) (Xl (itT t)):=fun t _ _=>XiO 1 0 t
    rcases Xno (p0::r0) with hnb | ⟨qs,p,r,e2,hnb,hpb⟩
    ·
      have hny:∀ k,Xxd (txt (List.flatMap Xat (p0::r0))) k→k=-1:=fun k h=>XsK hp2 hnb h
      have hpc2:Pcs (out++[itT (txt (List.flatMap Xat (p0::r0)))]) (q1++(p0::r0)):=.txt _ hpc (by simp) hnb
      have hwk2:=fun (t:ByteArray)=>hwk.app (XiO 1 0 t)
      have hl0:(List.flatMap Xat (p0::r0)).length≠0:=by
        rw [List.flatMap_cons,List.length_append]
        have:=List.length_pos_iff.2 (XeH p0)
        omega
      obtain ⟨u,hu⟩:∃ u,u=List.flatMap Xat (p0::r0):=⟨_,rfl⟩
      rw [← hu] at hl2 hia tia hne2 hny hpc2 hl0 ⊢
      clear hne hu8
      have hus:(txt u).size=u.length:=Xaf u
      have hx0:(txt u).extract 0 (txt u).size=txt u:=by
        have:=Xm3 u []
        rw [List.append_nil,← hus] at this;exact this
      have hx1:(txt u).extract (txt u).size (txt u).size=txt []:=by
        have:=XiP u []
        rw [List.append_nil,← hus] at this;exact this
      have hk:=XfI (txt u) (by omega)
      have tk:∀ c ∈ [S (txt u)],Xi c:=TreeL.cons (XX _) TreeL.nil
      repeat(first|refine Zd1 ?_|refine Xfj rfl (by exact hne2) ?_|(refine ZbX ?_;rintro _ ⟨k,rfl,hk1⟩;have hk1:=hny k hk1;subst hk1)|(refine Xj rfl rfl (by decide) (XbN (kl:=.i64) (kh:=.i64) (l:=0) (h:=(txt u).size) rfl rfl rfl rfl ⟨by omega,by omega⟩) ?_;rw [hx0])|(refine Xj rfl rfl (by decide) (XbN (kl:=.i64) (kh:=.i64) (l:=(txt u).size) (h:=(txt u).size) rfl rfl rfl rfl ⟨by omega,by omega⟩) ?_;rw [hx1])|(refine Zam ?_;rintro _ rfl)|(refine ZdV ?_;intro o2 G hG)|refine ZO ?_|refine Zbz ?_|refine Z5 ?_|(refine ZL ?_;intro id G hG)|refine ZaC ?_|refine ZN ?_|refine ZaD ?_)
      have hfm:(out++[itT (txt u)]).flatMap Xl=out.flatMap Xl++Xl (itT (txt u)):=by
        rw [List.flatMap_append,List.flatMap_cons,List.flatMap_nil,List.append_nil]
      refine ⟨⟨[],out++[itT (txt u)],cs++itR 1 0 (txt u),o2⟩,Nat.succ_pos _,.cons rfl (.cons rfl (.cons (by rw [List.length_append];rfl) (.nil _))),q1++(p0::r0),by rw [List.append_nil];exact e1,hpc2,?_,hG.tail⟩
      rw [hfm]
      exact hwk2 (txt u)
    · have hky:∀ k,Xxd (txt (List.flatMap Xat (p0::r0))) k→k=((qs.flatMap Xat).length:Nat):=fun k h=>by
        rw [e2] at h
        exact XsJ (fun x hx=>hp2 x (by rw [e2];exact List.mem_append_left _ hx)) hnb hpb h
      have hfl:List.flatMap Xat (p0::r0)=qs.flatMap Xat++(p::r).flatMap Xat:=by rw [e2,List.flatMap_append]
      have hlt:qs.length+(r.length+1)=(p0::r0).length:=by rw [e2,List.length_append];rfl
      by_cases hq0:qs=[]
      · subst hq0
        have hp1:=XAL hpb
        have hkb:=XdT XAX (p:Int)
        have hfp:List.flatMap Xat (p0::r0)=[UInt8.ofNat p]++r.flatMap Xat:=by rw [hfl,List.flatMap_nil,List.nil_append,List.flatMap_cons,Xmh hp1]
        have hky0:∀ k,Xxd (txt (List.flatMap Xat (p0::r0))) k→k=0:=fun k h=>hky k h
        have hpc2:=Pcs.brk p hpc hpb
        have hb0:Xd (txt ([UInt8.ofNat p]++r.flatMap Xat)) 0=p:=by
          rw [Xj1 _ 0 (UInt8.ofNat p) rfl];simp;omega
        have hx1:=XiP [UInt8.ofNat p] (r.flatMap Xat)
        have hbi:∀ p:Fin 128,XdX p.val=true→p.val≠10→Lib.indexByte XAX.data.toList ((p.val:Nat):Int).toNat.toUInt8=if p.val=11 then 1 else if p.val=12 then 2 else 3:=by decide +kernel
        have hbi:=hbi ⟨p,hp1⟩ hpb
        dsimp only at hbi
        rw [hfp] at hl2 hia tia hne2 hky0 ⊢
        clear hne hu8 hp2 hnb hky hfl
        have tk:∀ c ∈ [S XAX,.v (.int .u8 (p:Int))],Xi c:=TreeL.cons (XX _) (TreeL.cons (.v _) TreeL.nil)
        obtain ⟨u,hu⟩:∃ u,u=[UInt8.ofNat p]++r.flatMap Xat:=⟨_,rfl⟩
        have hus:(txt u).size=(r.flatMap Xat).length+1:=by rw [hu,Xaf];rfl
        rw [← hu] at hl2 hia tia hne2 hky0 hb0 hx1 ⊢
        obtain ⟨x,hx⟩:∃ x,x=itN p:=⟨_,rfl⟩
        have hraw:∃ k c,x=.mk k c 0 ByteArray.empty XcZ [] []∧(p=10∧k=2∧c=0∨p≠10∧k=4∧Lib.indexByte XAX.data.toList ((p:Nat):Int).toNat.toUInt8=c):=by
          have hpc:=of_decide_eq_true hpb
          rw [hx]
          rcases hpc with rfl | rfl | rfl | rfl
          · exact ⟨2,0,rfl,.inl ⟨rfl,rfl,rfl⟩⟩
          · exact ⟨4,1,rfl,.inr ⟨by decide,rfl,hbi (by decide)⟩⟩
          · exact ⟨4,2,rfl,.inr ⟨by decide,rfl,hbi (by decide)⟩⟩
          · exact ⟨4,3,rfl,.inr ⟨by decide,rfl,hbi (by decide)⟩⟩
        obtain ⟨k,c,hxe,hkc⟩:=hraw
        rw [← hx] at hpc2
        have hwk2:=hwk.app (XiO k c ByteArray.empty)
        have hfm:(out++[x]).flatMap Xl=out.flatMap Xl++Xl x:=by
          rw [List.flatMap_append,List.flatMap_cons,List.flatMap_nil,List.append_nil]
        clear hx hbi
        rcases hkc with ⟨c1,rfl,rfl⟩ | ⟨c1,rfl,c3⟩
        · repeat(first|refine Zd1 ?_|refine ZJ ?_|refine Xfj rfl (by exact hne2) ?_|(refine ZbX ?_;rintro _ ⟨k,rfl,hk1⟩;have hk1:=hky0 k hk1;subst hk1)|refine ZdW ?_|(refine Xj rfl rfl (by decide) (XbN (kl:=.i64) (kh:=.i64) (l:=1) (h:=(txt u).size) rfl rfl rfl rfl ⟨by omega,by omega⟩) ?_;rw [show (1:Nat)=[UInt8.ofNat p].length from rfl,hx1])|(refine ZdX ?_;intro o2 G hG)|refine Zbz ?_|refine Z5 ?_|(refine ZA ?_;intro G hG)|(refine ZD ?_;intro id G hG)|(refine ZL ?_;intro id G hG)|refine ZN ?_|refine ZU ?_)
          refine ⟨⟨r,out++[x],cs++itR 2 0 ByteArray.empty,o2⟩,?_,.cons rfl (.cons rfl (.cons (by rw [List.length_append];rfl) (.nil _))),q1++[p],by rw [List.append_assoc];rw [e1,e2];rfl,hpc2,?_,hG.tail.tail⟩
          · show r.length < (p0::r0).length
            rw [← hlt];simp
          · rw [hfm,hxe]
            exact hwk2
        · rw [c3] at hkb
          repeat(first|refine Zd1 ?_|refine ZJ ?_|refine Xfj rfl (by exact hne2) ?_|(refine ZbX ?_;rintro _ ⟨k,rfl,hk1⟩;have hk1:=hky0 k hk1;subst hk1)|refine ZdW ?_|(refine Xr rfl rfl rfl rfl rfl rfl (by decide) hkb tk ?_;rintro _ rfl)|(refine Xj rfl rfl (by decide) (XbN (kl:=.i64) (kh:=.i64) (l:=1) (h:=(txt u).size) rfl rfl rfl rfl ⟨by omega,by omega⟩) ?_;rw [show (1:Nat)=[UInt8.ofNat p].length from rfl,hx1])|(refine ZdX ?_;intro o2 G hG)|refine Zbz ?_|refine Z5 ?_|(refine ZA ?_;intro G hG)|(refine ZD ?_;intro id G hG)|(refine ZL ?_;intro id G hG)|refine ZN ?_|refine ZU ?_)
          refine ⟨⟨r,out++[x],cs++itR 4 c ByteArray.empty,o2⟩,?_,.cons rfl (.cons rfl (.cons (by rw [List.length_append];rfl) (.nil _))),q1++[p],by rw [List.append_assoc];rw [e1,e2];rfl,hpc2,?_,hG.tail.tail⟩
          · show r.length < (p0::r0).length
            rw [← hlt];simp
          · rw [hfm,hxe]
            exact hwk2
      · have hpc2:Pcs (out++[itT (txt (qs.flatMap Xat))]) (q1++qs):=.txt _ hpc hq0 hnb
        have hwk2:=fun (t:ByteArray)=>hwk.app (XiO 1 0 t)
        have hl0:(qs.flatMap Xat).length≠0:=by
          cases qs with
          | nil=>exact absurd rfl hq0
          | cons x xs =>
            rw [List.flatMap_cons,List.length_append]
            have:=List.length_pos_iff.2 (XeH x)
            omega
        rw [hfl] at hl2 hia tia hne2 hky ⊢
        clear hne hu8 hp2 hnb
        obtain ⟨u,hu⟩:∃ u,u=qs.flatMap Xat:=⟨_,rfl⟩
        rw [← hu] at hl2 hia tia hne2 hky hpc2 hl0 ⊢
        obtain ⟨v,hv2⟩:∃ v,v=(p::r).flatMap Xat:=⟨_,rfl⟩
        rw [← hv2] at hl2 hia tia hne2 hky ⊢
        have hus:(txt (u++v)).size=u.length+v.length:=by rw [Xaf,List.length_append]
        rw [List.length_append] at hl2
        have hx0:=Xm3 u v
        have hx1:=XiP u v
        have hk:=XfI (txt u) (by rw [Xaf];omega)
        have tk:∀ c ∈ [S (txt u)],Xi c:=TreeL.cons (XX _) TreeL.nil
        repeat(first|refine Zd1 ?_|refine Xfj rfl (by exact hne2) ?_|(refine ZbX ?_;rintro _ ⟨k,rfl,hk1⟩;have hk1:=hky k hk1;subst hk1)|(refine Xj rfl rfl (by decide) (XbN (kl:=.i64) (kh:=.i64) (l:=0) (h:=u.length) rfl rfl rfl rfl ⟨by omega,by omega⟩) ?_;rw [hx0])|(refine Xj rfl rfl (by decide) (XbN (kl:=.i64) (kh:=.i64) (l:=u.length) (h:=(txt (u++v)).size) rfl rfl rfl rfl ⟨by omega,by omega⟩) ?_;rw [hx1])|(refine Zam ?_;rintro _ rfl)|(refine ZdV ?_;intro o2 G hG)|refine Zbz ?_|refine Z5 ?_|(refine ZL ?_;intro id G hG)|refine ZaC ?_|refine ZN ?_|refine ZaD ?_)
        have hfm:(out++[itT (txt u)]).flatMap Xl=out.flatMap Xl++Xl (itT (txt u)):=by
          rw [List.flatMap_append,List.flatMap_cons,List.flatMap_nil,List.append_nil]
        refine ⟨⟨p::r,out++[itT (txt u)],cs++itR 1 0 (txt u),o2⟩,?_,.cons (by rw [hv2];rfl) (.cons rfl (.cons (by rw [List.length_append];rfl) (.nil _))),q1++qs,by rw [List.append_assoc,← e2];exact e1,hpc2,?_,hG.tail⟩
        · have:=List.length_pos_iff.2 hq0
          show r.length+1 < (p0::r0).length
          omega
        · rw [hfm]
          exact hwk2 (txt u)
end Go.Proofs.YtlcphjcpoinolaaGreat
