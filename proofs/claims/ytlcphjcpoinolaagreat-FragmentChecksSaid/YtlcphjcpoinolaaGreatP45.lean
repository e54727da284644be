/- Part of the proof: the walk over the program and its laws: Lw Lx Ly. -/
import Derived.Test.YtlcphjcpoinolaaGreatP0
import Derived.Test.YtlcphjcpoinolaaGreatP44
import Derived.Test.YtlcphjcpoinolaaGreatP2
import Derived.Test.YtlcphjcpoinolaaGreatP7
set_option linter.unusedVariables false
namespace Go.Proofs.YtlcphjcpoinolaaGreat
open Go.RowKit Go.Th
set_option maxRecDepth 20000
def XAJ (b:Nat):Bool:=if b < 32 then true else decide (b=127)
theorem XwF (b:Nat):Iso Tryz.prog 229 [.v (.int .u8 (b:Nat))] (fun p=>p=B (XAJ b)):=by
  have hG:=Xd
  refine Xb Tryz.func229 rfl rfl rfl ?_
  unfold XAJ
  by_cases h:b < 32
  · rw [if_pos h]
    repeat(first|refine Zes ?_)
    exact ZB
  · rw [if_neg h]
    have hdec:PV.v (.bool (decide ((b:Int)=127)))=B (decide (b=127)):=by
      show PV.v _=PV.v _
      congr 2
      exact decide_eq_decide.2 (by omega)
    repeat(first|refine Zes ?_|refine Xn rfl rfl (by decide) (XP (op:=.lss) rfl rfl rfl (congrArg some (decide_eq_false (by omega)))) ?_|refine Xn rfl rfl (by decide) (OpV.same (XP (op:=.eql) rfl rfl rfl rfl) hdec) ?_)
    exact ZB
def Xtd (x:UInt8):List PV:=[.v (.int .u8 (x.toNat:Nat))]
theorem Xsa (x:UInt8):(Xtd x).length=1:=rfl
theorem Xho:∀ l:List UInt8,XdH l=l.flatMap Xtd
  | []=>rfl
  | x::l=>by rw [List.flatMap_cons,← Xho l];rfl
theorem XhW (l:List UInt8):∀ c ∈ l.flatMap Xtd,Xk c:=fun c hc=>by
  obtain ⟨x,_,hx⟩:=List.mem_flatMap.1 hc
  rw [List.mem_singleton.1 hx]
  exact .v _
theorem Xmn (x:Pt):∀ c ∈ Xdg x,Xk c:=TreeL.cons (Xad _) (TreeL.cons (Xe _) (TreeL.cons (.v _) TreeL.nil))
theorem XeS (l:List Pt):∀ c ∈ l.flatMap Xdg,Xk c:=fun c hc=>by
  obtain ⟨x,_,hx⟩:=List.mem_flatMap.1 hc
  exact Xmn x c hx
theorem Xqv (x:Pt) (n:Int):Iso Tryz.prog 212 [.agg (Xdg x),.ept [I n] 0] (fun p=>p=B (decide (x.lv > n))):=by
  have hG:=Xd
  refine Xb Tryz.func212 rfl rfl rfl ?_
  repeat(first|refine Zev ?_|refine Zt ?_|(refine ZH ?_;intro id G hG))
  exact ZB
def XqO (b:UInt8→Bool):List UInt8→Nat→Int
  | [],_=>-1
  | x::r,i=>if b x=true then i else XqO b r (i+1)
theorem Xti (b:UInt8→Bool):∀ (l:List UInt8) (i:Nat),decide (0≤XqO b l i)=l.any b
  | [],i=>by rw [XqO];rfl
  | x::r,i=>by
    rw [XqO,List.any_cons]
    cases h:b x with
    | true=>rw [if_pos rfl];exact decide_eq_true (by omega)
    | false=>rw [if_neg (by simp)];exact Xti b r (i+1)
set_option maxHeartbeats 8000000 in
theorem XhQ (l:List UInt8) (g:FuncId) (cap:List PV) (b:UInt8→Bool) (hl:l.length≤1000000) (hcap:∀ c ∈ cap,Xk c) (h:∀ x ∈ l,Iso Tryz.prog g ([.v (.int .u8 (x.toNat:Nat))]++cap) (fun p=>p=B (b x))) :
    Iso Tryz.prog 237 [.tr (l.flatMap Xtd) l.length 1,.fn (.func g) cap] (fun p=>p=I (XqO b l 0)):=by
  have hG:=Xd
  refine Xb Tryz.func237 rfl rfl rfl ?_
  repeat(first|refine Zes ?_)
  refine Xg (S:=Nat) (fun i=>[(0,.tr (l.flatMap Xtd) l.length 1),(1,.fn (.func g) cap),(7,I l.length),(8,I i)]) (fun i G=>i≤l.length∧XqO b l 0=XqO b (l.drop i) i∧Has G []) (fun i=>l.length - i) 0
    (.cons rfl (.cons rfl (.cons rfl (.cons rfl (.nil _))))) ⟨Nat.zero_le _,rfl,hG⟩ ?_
  clear hG
  rintro i G ⟨hi,hf,hG⟩
  by_cases hil:i < l.length
  · obtain ⟨x,hx⟩:∃ x,l[i]?=some x:=⟨_,List.getElem?_eq_getElem hil⟩
    have hk:=h x (List.mem_of_getElem? hx)
    have hc:=Xp Xsa l i x hx
    rw [X2 hx,XqO] at hf
    cases hb:b x with
    | true =>
      rw [if_pos hb] at hf
      rw [hb] at hk
      repeat(first|refine Zes ?_|refine Zea ?_|(refine Xr rfl rfl rfl rfl rfl rfl (by decide) hk (TreeL.cons (Xk.v _) hcap) ?_;rintro _ rfl))
      exact ZaQ
    | false =>
      rw [if_neg (by rw [hb];simp)] at hf
      rw [hb] at hk
      repeat(first|refine Zes ?_|refine Zea ?_|(refine Xr rfl rfl rfl rfl rfl rfl (by decide) hk (TreeL.cons (Xk.v _) hcap) ?_;rintro _ rfl))
      exact Zby
  have e0:l.drop i=[]:=List.drop_eq_nil_of_le (by omega)
  rw [e0,XqO] at hf
  repeat(first|refine Zes ?_)
  exact Zah
set_option maxHeartbeats 8000000 in
theorem XfV (l:List UInt8) (g:FuncId) (cap:List PV) (b:UInt8→Bool) (hl:l.length≤1000000) (hcap:∀ c ∈ cap,Xk c) (h:∀ x ∈ l,Iso Tryz.prog g ([.v (.int .u8 (x.toNat:Nat))]++cap) (fun p=>p=B (b x))) :
    Iso Tryz.prog 228 [.tr (l.flatMap Xtd) l.length 1,.fn (.func g) cap] (fun p=>p=B (l.any b)):=by
  have hG:=Xd
  have hk:=XhQ l g cap b hl hcap h
  have ht:∀ c ∈ [PV.tr (l.flatMap Xtd) l.length 1,.fn (.func g) cap],Xk c:=TreeL.cons (Xk.tr (XhW l)) (TreeL.cons (Xk.fn hcap) TreeL.nil)
  have he:=Xti b l 0
  generalize XqO b l 0=v at hk he
  refine Xb Tryz.func228 rfl rfl rfl ?_
  repeat(first|refine Zes ?_|(refine Zak ?_;rintro _ rfl)|refine Z7 ?_)
  exact ZK
def XqN (b:Pt→Bool):List Pt→Nat→Int
  | [],_=>-1
  | x::r,i=>if b x=true then i else XqN b r (i+1)
theorem XsX (b:Pt→Bool):∀ (l:List Pt) (i:Nat),decide (0≤XqN b l i)=l.any b
  | [],i=>by rw [XqN];rfl
  | x::r,i=>by
    rw [XqN,List.any_cons]
    cases h:b x with
    | true=>rw [if_pos rfl];exact decide_eq_true (by omega)
    | false=>rw [if_neg (by simp)];exact XsX b r (i+1)
set_option maxHeartbeats 8000000 in
theorem XhP (l:List Pt) (g:FuncId) (cap:List PV) (b:Pt→Bool) (hl:l.length≤1000000) (hcap:∀ c ∈ cap,Xk c) (h:∀ x ∈ l,Iso Tryz.prog g ([.agg (Xdg x)]++cap) (fun p=>p=B (b x))) :
    Iso Tryz.prog 231 [.tr (l.flatMap Xdg) l.length 3,.fn (.func g) cap] (fun p=>p=I (XqN b l 0)):=by
  have hG:=Xd
  refine Xb Tryz.func231 rfl rfl rfl ?_
  repeat(first|refine Zes ?_)
  refine Xg (S:=Nat) (fun i=>[(0,.tr (l.flatMap Xdg) l.length 3),(1,.fn (.func g) cap),(7,I l.length),(8,I i)]) (fun i G=>i≤l.length∧XqN b l 0=XqN b (l.drop i) i∧Has G []) (fun i=>l.length - i) 0
    (.cons rfl (.cons rfl (.cons rfl (.cons rfl (.nil _))))) ⟨Nat.zero_le _,rfl,hG⟩ ?_
  clear hG
  rintro i G ⟨hi,hf,hG⟩
  by_cases hil:i < l.length
  · obtain ⟨x,hx⟩:∃ x,l[i]?=some x:=⟨_,List.getElem?_eq_getElem hil⟩
    have hk:=h x (List.mem_of_getElem? hx)
    have hc:=Xp Xfl l i x hx
    rw [X2 hx,XqN] at hf
    cases hb:b x with
    | true =>
      rw [if_pos hb] at hf
      rw [hb] at hk
      repeat(first|refine Zes ?_|refine Zeb ?_|(refine Zec ?_;rintro _ rfl))
      exact ZaQ
    | false =>
      rw [if_neg (by rw [hb];simp)] at hf
      rw [hb] at hk
      repeat(first|refine Zes ?_|refine Zeb ?_|(refine Zec ?_;rintro _ rfl))
      exact Zby
  have e0:l.drop i=[]:=List.drop_eq_nil_of_le (by omega)
  rw [e0,XqN] at hf
  repeat(first|refine Zes ?_)
  exact Zah
set_option maxHeartbeats 8000000 in
theorem XfU (l:List Pt) (g:FuncId) (cap:List PV) (b:Pt→Bool) (hl:l.length≤1000000) (hcap:∀ c ∈ cap,Xk c) (h:∀ x ∈ l,Iso Tryz.prog g ([.agg (Xdg x)]++cap) (fun p=>p=B (b x))) :
    Iso Tryz.prog 211 [.tr (l.flatMap Xdg) l.length 3,.fn (.func g) cap] (fun p=>p=B (l.any b)):=by
  have hG:=Xd
  have hk:=XhP l g cap b hl hcap h
  have ht:∀ c ∈ [PV.tr (l.flatMap Xdg) l.length 3,.fn (.func g) cap],Xk c:=TreeL.cons (Xk.tr (XeS l)) (TreeL.cons (Xk.fn hcap) TreeL.nil)
  have he:=XsX b l 0
  generalize XqN b l 0=v at hk he
  refine Xb Tryz.func211 rfl rfl rfl ?_
  repeat(first|refine Zes ?_|(refine Zak ?_;rintro _ rfl)|refine Z7 ?_)
  exact ZK
end Go.Proofs.YtlcphjcpoinolaaGreat
namespace Go.Proofs.YtlcphjcpoinolaaGreat
open Go.RowKit Go.Th
set_option maxRecDepth 20000
def scn (s:ByteArray):Sn:=Xw6 (XeD s (s.size+1) ⟨0,[],[],0,0⟩)
def Xh7 (s:ByteArray):PV :=
  if s.size > 64 then .tup [XaQ,I 10] else
  if XbH s=false then .tup [XaQ,I 12] else
  if (s.data.toList.any fun x=>XAJ x.toNat)=true then .tup [XaQ,I 5] else
  if (scn s).e=0 then .tup [.tr ((scn s).ps.flatMap Xdg) (scn s).ps.length 3,I 0] else .tup [XaQ,I (scn s).e]
set_option maxHeartbeats 16000000 in
theorem Xo8 (s:ByteArray):Iso Tryz.prog 210 [S s] (fun p=>p=Xh7 s):=by
  have hG:=Xd
  have hbt:Xk (XlZ s):=by
    unfold XlZ
    rw [Xho]
    exact Xk.tr (XhW _)
  obtain ⟨Y,hY⟩:∃ Y,Y=Xh7 s:=⟨_,rfl⟩
  rw [← hY]
  unfold Xh7 at hY
  refine Xb Tryz.func210 rfl rfl rfl ?_
  by_cases h1:s.size > 64
  · rw [if_pos h1] at hY
    repeat(first|refine Zes ?_|refine Z0 ?_)
    exact Zb7
  · rw [if_neg h1] at hY
    have hv:=Xbx s (by omega)
    have hb:=XfV s.data.toList 229 [] (fun x=>XAJ x.toNat) (by rw [Array.length_toList];show s.size≤_;omega) TreeL.nil (fun x _=>XwF x.toNat)
    rw [← Xho] at hb
    cases h2:XbH s with
    | false =>
      rw [h2,if_pos rfl] at hY
      rw [h2] at hv
      repeat(first|refine Zes ?_|(refine Zc4 ?_;rintro _ rfl)|refine Z0 ?_)
      exact Zb7
    | true =>
      rw [h2,if_neg (by decide)] at hY
      rw [h2] at hv
      generalize (s.data.toList.any fun x=>XAJ x.toNat)=b at hb hY
      cases b with
      | true =>
        rw [if_pos rfl] at hY
        repeat(first|refine Zes ?_|(refine Zc4 ?_;rintro _ rfl)|refine Xfs rfl rfl (by decide) (Xhw rfl rfl (by omega)) ?_|(refine Zed ?_;rintro _ rfl)|refine Z0 ?_)
        exact Zb7
      | false =>
        rw [if_neg (by decide)] at hY
        repeat(first|refine Zes ?_|(refine Zc4 ?_;rintro _ rfl)|refine Xfs rfl rfl (by decide) (Xhw rfl rfl (by omega)) ?_|(refine Zed ?_;rintro _ rfl)|refine Z0 ?_|refine Zaj ?_|(refine ZH ?_;intro id G hG))
        refine X5 rfl rfl rfl rfl rfl rfl (by decide) (Xt9 _ s (by omega) _ _ hG) ?_
        clear hG
        rintro _ G ⟨rfl,hS⟩
        refine Za ?_
        have hsc:Xw6 (XeD s (s.size+1) ⟨0,[],[],0,0⟩)=scn s:=rfl
        rw [hsc] at hS
        generalize scn s=x at hS hY
        refine Xe5 hS ?_
        clear hS
        intro G ad lo po had hG
        unfold scB at hG
        obtain ⟨a,lit,ps,pl,e⟩:=x
        simp only at hG hY
        by_cases h3:e=0
        · rw [if_pos h3] at hY
          repeat(first|refine Zes ?_|refine ZL ?_)
          exact XgF rfl rfl rfl (Conv.own hG (k:=2) rfl (XF Xfl ps)) (.refl _) (Xk.tr (XeS ps)) (Xe _) hY.symm
        · rw [if_neg h3] at hY
          repeat(first|refine Zez ?_|refine ZC ?_|refine ZL ?_)
          refine ZD ?_
          repeat(first|refine Z4 ?_|refine Zeu ?_)
          repeat(first|refine Zes ?_)
          exact Zb7
theorem Xmq (s:ByteArray):∀ k x,XsC x→x.a≤s.size+3→XsC (XeD s k x)∧(XeD s k x).a≤s.size+3
  | 0,x,h,h2=>⟨h,h2⟩
  | k+1,x,h,h2=>by
    rw [XeD]
    split
    · rename_i hg
      have ha:=XyG (s:=s) (x:=x)
      have hlt:x.a < s.size:=by
        unfold XnW at hg
        split at hg
        · assumption
        · cases hg
      exact Xmq s k _ (XsZ h).1 (by omega)
    · exact ⟨h,h2⟩
theorem Xt8 (s:ByteArray) (hs:s.size≤64):(scn s).ps.length≤1000:=by
  obtain ⟨⟨h1,_,_⟩,h2⟩:=Xmq s (s.size+1) ⟨0,[],[],0,0⟩ ⟨Nat.le_refl _,by simp only;omega,by simp only;omega⟩ (by simp only;omega)
  unfold scn Xw6
  simp only
  have:=Xih (XeD s (s.size+1) ⟨0,[],[],0,0⟩).lit (XeD s (s.size+1) ⟨0,[],[],0,0⟩).ps
  omega
theorem Xlg (s:ByteArray):(∃ ps:List Pt,ps.length≤1000∧Xh7 s=.tup [.tr (ps.flatMap Xdg) ps.length 3,I 0])∨(∃ e,¬ e=0∧Xh7 s=.tup [XaQ,I e]):=by
  unfold Xh7
  split
  · exact .inr ⟨10,by decide,rfl⟩
  · split
    · exact .inr ⟨12,by decide,rfl⟩
    · split
      · exact .inr ⟨5,by decide,rfl⟩
      · split
        · exact .inl ⟨(scn s).ps,Xt8 s (by omega),rfl⟩
        · exact .inr ⟨_,by assumption,rfl⟩
end Go.Proofs.YtlcphjcpoinolaaGreat
namespace Go.Proofs.YtlcphjcpoinolaaGreat
open Go.RowKit Go.Th
set_option maxRecDepth 20000
set_option maxHeartbeats 16000000 in
theorem Xe6 (s:ByteArray) (n:Int):∃ e,Iso Tryz.prog 199 [S s,I n] (fun p=>p=I e):=by
  have hG:=Xd
  have hp:=Xo8 s
  by_cases h1:n < 1
  · refine ⟨2,?_⟩
    refine Zb8 ?_
    repeat(first|refine Zes ?_|(refine ZH ?_;intro id G hG))
    exact Zaf
  · by_cases h2:n > 9
    · refine ⟨2,?_⟩
      refine Zb8 ?_
      repeat(first|refine Zes ?_|(refine ZH ?_;intro id G hG))
      exact Zaf
    · rcases Xlg s with ⟨ps,hpl,e1⟩ | ⟨e,he,e1⟩
      · rw [e1] at hp
        have ha:=XfU ps 212 [.ept [I n] 0] (fun x=>decide (x.lv > n)) (by omega) (TreeL.cons (Xk.ept (TreeL.cons (Xe _) TreeL.nil)) TreeL.nil) (fun x _=>Xqv x n)
        generalize (ps.any fun x=>decide (x.lv > n))=b at ha
        refine ⟨if b=true then 6 else 0,?_⟩
        refine Zb8 ?_
        refine Zc ?_
        refine Zb ?_
        repeat(first|refine Zd ?_|(refine ZH ?_;intro id G hG))
        refine Za ?_
        refine Xz 3 hG rfl ?_
        clear hG
        intro G hG
        cases b with
        | true =>
          repeat(first|refine Zes ?_|(refine Zc5 ?_;rintro _ rfl)|(refine Zee ?_;rintro _ rfl)|refine Z8 ?_|refine Zav ?_)
          exact Zaf
        | false =>
          repeat(first|refine Zes ?_|(refine Zc5 ?_;rintro _ rfl)|(refine Zee ?_;rintro _ rfl)|refine Z8 ?_|refine Zav ?_)
          exact Zaf
      · rw [e1] at hp
        refine ⟨e,?_⟩
        refine Zb8 ?_
        repeat(first|refine Zes ?_|(refine Zc5 ?_;rintro _ rfl)|refine Z8 ?_|(refine ZH ?_;intro id G hG))
        exact Zaf
end Go.Proofs.YtlcphjcpoinolaaGreat
