/- Part of the proof: the walk over the program and its laws: Sb. -/
import Derived.Test.YtlcphjcpoinolaaGreatP0
import Derived.Test.YtlcphjcpoinolaaGreatP13
set_option linter.unusedVariables false
namespace Go.Proofs.YtlcphjcpoinolaaGreat
open Go.RowKit Go.Th
set_option maxRecDepth 20000
theorem Xii {α:Type} {enc:α→List PV} {sz:Nat} (henc:∀ x,(enc x).length=sz):∀ (l:List α) (i:Nat),(l.flatMap enc).take (i * sz)=(l.take i).flatMap enc
  | [],i=>by simp
  | x::l,0=>by simp
  | x::l,i+1=>by
    rw [List.flatMap_cons,List.take_succ_cons,List.flatMap_cons,show (i+1) * sz=(enc x).length+i * sz by rw [henc,Nat.add_mul];omega,List.take_length_add_append,Xii henc l i]
theorem XoH {α:Type} {enc:α→List PV} {sz:Nat} (henc:∀ x,(enc x).length=sz) {l:List α} {i:Nat} (hi:i≤l.length):XeG sz (XaE enc sz l) 0 i=some (XaE enc sz (l.take i)):=by
  have e:Nat.beq sz sz=true:=Nat.beq_refl sz
  unfold XeG XaE
  simp only [e,Nat.zero_mul,List.drop_zero,Nat.sub_zero,Xii henc,List.length_take,Nat.min_eq_left hi]
def Xhq:List Prp→Bool
  | []=>false
  | p::l=>if p.key=20 then true else if p.key=1 then true else Xhq l
def XrA (l:List Style) (i:Nat):Int:=match l[i]? with
  | none=>0
  | some s=>if s.id < 1 then 18 else if 1073741824 < s.id then 18 else
    if 0 < i∧(l[i - 1]?).map Style.id=some s.id then 7 else if 0 < i∧(match l[i - 1]? with | some q=>decide (s.id < q.id) | none=>false)=true then 6 else
    if s.kind≠1∧s.kind≠2 then 3 else if XeX s.name=false then 13 else if 0≤Xw3 (l.take i) s.kind s.name then 7 else if Xhq s.props=true then 4 else XcB (Xqc s.kind) s.props
def XyA (l:List Style) (i:Nat) (s:Style):Int:=if 0≤Xw3 (l.take i) s.kind s.name then 7 else if Xhq s.props=true then 4 else XcB (Xqc s.kind) s.props
private theorem Xb8 {P:Program} {n:Nat} {Q:QA} {E:Env} {H:Xi} {c:Code} {L:List (Nat × Blk)} (hG:Has H L) (h:∀ G,Has G L→wpA P n c Q E G):wpA P n c Q E H:=h H hG
set_option maxHeartbeats 32000000 in
theorem XuF (l:List Style) (i:Nat) (hi:i < l.length) (hl:l.length≤1000000) (hp:∀ x ∈ l,x.props.length≤1000000):Iso Tryz.prog 165 [XN l,I i] (fun p=>p=I (XrA l i)):=by
  have hG:=Xd
  obtain ⟨s,hs⟩:∃ s,l[i]?=some s:=⟨_,List.getElem?_eq_getElem hi⟩
  have hps:=hp s (List.mem_of_getElem? hs)
  have hc:=Xp XaY l i s hs
  obtain ⟨e,he⟩:∃ e,XrA l i=e:=⟨_,rfl⟩
  rw [he]
  unfold XrA at he
  rw [hs] at he
  dsimp only at he
  refine Xb Tryz.func165 rfl rfl rfl ?_
  refine Zc ?_
  refine Zb ?_
  repeat(first|refine Zd ?_)
  refine Za ?_
  refine Zc ?_
  refine Zb ?_
  repeat(first|refine Zb5 ?_|refine Zet ?_|(refine Zz ?_;intro G hG)|(refine ZI ?_;intro id G hG))
  refine Za ?_
  refine Xb8 (L:=[(id,⟨Xt s,100,true⟩)]) hG ?_
  clear hG
  intro G hG
  refine XbQ (S:=Unit) (fun _=>[(0,XN l),(1,I i),(5,.ptr id 0)]) (fun _ G=>Has G [(id,⟨Xt s,100,true⟩)]∧XyA l i s=e) ?_ ?_
  · have hN:=Xof s.name
    have tN:∀ c ∈ [S s.name],Xk c:=TreeL.cons (Xad _) TreeL.nil
    by_cases c1:s.id < 1
    · rw [if_pos c1] at he
      repeat(first|refine Zes ?_)
      exact ZK
    rw [if_neg c1] at he
    by_cases c2:1073741824 < s.id
    · rw [if_pos c2] at he
      repeat(first|refine Zes ?_)
      exact ZK
    rw [if_neg c2] at he
    by_cases h0:0 < i
    · obtain ⟨q,hq⟩:∃ q,l[i - 1]?=some q:=⟨_,List.getElem?_eq_getElem (by omega)⟩
      have o2:Xav 6 ((l.flatMap Xt).drop (((i:Int) - 1).toNat * 6))=some (Xt q):=by
        rw [show ((i:Int) - 1).toNat=i - 1 by omega];exact Xp XaY l (i - 1) q hq
      rw [hq] at he
      simp only [Option.map_some,Option.some.injEq] at he
      by_cases c3:q.id=s.id
      · rw [if_pos ⟨h0,c3⟩] at he
        repeat(first|refine Zes ?_)
        refine ZD ?_
        repeat(first|refine ZU ?_|refine Zaw ?_|refine Zeu ?_|refine ZaS ?_)
        repeat(first|refine Zes ?_)
        exact ZK
      rw [if_neg (fun h=>c3 h.2)] at he
      by_cases c4:s.id < q.id
      · rw [if_pos ⟨h0,decide_eq_true c4⟩] at he
        repeat(first|refine Zes ?_)
        refine ZD ?_
        repeat(first|refine ZU ?_|refine Zaw ?_|refine Zeu ?_)
        repeat(first|refine Zes ?_)
        refine ZD ?_
        repeat(first|refine ZU ?_|refine Zaw ?_|refine Zeu ?_|refine ZaS ?_)
        repeat(first|refine Zes ?_)
        exact ZK
      rw [if_neg (fun h=>c4 (of_decide_eq_true h.2))] at he
      by_cases k1:s.kind=1
      · rw [if_neg (fun h=>h.1 k1)] at he
        cases hn:XeX s.name with
        | false =>
          rw [if_pos hn] at he;rw [hn] at hN
          repeat(first|refine Zes ?_)
          refine ZD ?_
          repeat(first|refine ZU ?_|refine Zaw ?_|refine Zeu ?_)
          repeat(first|refine Zes ?_)
          refine ZD ?_
          repeat(first|refine ZU ?_|refine Zaw ?_|refine Zeu ?_)
          repeat(first|refine Zes ?_|(refine ZaX ?_;rintro _ rfl))
          exact ZK
        | true =>
          rw [if_neg (by rw [hn];simp)] at he;rw [hn] at hN
          repeat(first|refine Zes ?_)
          refine ZD ?_
          repeat(first|refine ZU ?_|refine Zaw ?_|refine Zeu ?_)
          repeat(first|refine Zes ?_)
          refine ZD ?_
          repeat(first|refine ZU ?_|refine Zaw ?_|refine Zeu ?_)
          repeat(first|refine Zes ?_|(refine ZaX ?_;rintro _ rfl)|refine ZY ?_|refine Z1 ?_)
          exact Zcb
      by_cases k2:s.kind=2
      · rw [if_neg (fun h=>h.2 k2)] at he
        cases hn:XeX s.name with
        | false =>
          rw [if_pos hn] at he;rw [hn] at hN
          repeat(first|refine Zes ?_)
          refine ZD ?_
          repeat(first|refine ZU ?_|refine Zaw ?_|refine Zeu ?_)
          repeat(first|refine Zes ?_)
          refine ZD ?_
          repeat(first|refine ZU ?_|refine Zaw ?_|refine Zeu ?_)
          repeat(first|refine Zes ?_|(refine ZaX ?_;rintro _ rfl))
          exact ZK
        | true =>
          rw [if_neg (by rw [hn];simp)] at he;rw [hn] at hN
          repeat(first|refine Zes ?_)
          refine ZD ?_
          repeat(first|refine ZU ?_|refine Zaw ?_|refine Zeu ?_)
          repeat(first|refine Zes ?_)
          refine ZD ?_
          repeat(first|refine ZU ?_|refine Zaw ?_|refine Zeu ?_)
          repeat(first|refine Zes ?_|(refine ZaX ?_;rintro _ rfl)|refine ZY ?_|refine Z1 ?_)
          exact Zcb
      rw [if_pos ⟨k1,k2⟩] at he
      repeat(first|refine Zes ?_)
      refine ZD ?_
      repeat(first|refine ZU ?_|refine Zaw ?_|refine Zeu ?_)
      repeat(first|refine Zes ?_)
      refine ZD ?_
      repeat(first|refine ZU ?_|refine Zaw ?_|refine Zeu ?_)
      repeat(first|refine Zes ?_)
      exact ZK
    · rw [if_neg (fun h=>h0 h.1),if_neg (fun h=>h0 h.1)] at he
      have o2:=hc
      by_cases k1:s.kind=1
      · rw [if_neg (fun h=>h.1 k1)] at he
        cases hn:XeX s.name with
        | false =>
          rw [if_pos hn] at he;rw [hn] at hN
          repeat(first|refine Zes ?_)
          refine ZD ?_
          repeat(first|refine Zeu ?_)
          repeat(first|refine Zes ?_)
          refine ZD ?_
          repeat(first|refine Zeu ?_)
          repeat(first|refine Zes ?_|(refine ZaX ?_;rintro _ rfl))
          exact ZK
        | true =>
          rw [if_neg (by rw [hn];simp)] at he;rw [hn] at hN
          repeat(first|refine Zes ?_)
          refine ZD ?_
          repeat(first|refine Zeu ?_)
          repeat(first|refine Zes ?_)
          refine ZD ?_
          repeat(first|refine Zeu ?_)
          repeat(first|refine Zes ?_|(refine ZaX ?_;rintro _ rfl)|refine ZY ?_|refine Z1 ?_)
          exact Zcb
      by_cases k2:s.kind=2
      · rw [if_neg (fun h=>h.2 k2)] at he
        cases hn:XeX s.name with
        | false =>
          rw [if_pos hn] at he;rw [hn] at hN
          repeat(first|refine Zes ?_)
          refine ZD ?_
          repeat(first|refine Zeu ?_)
          repeat(first|refine Zes ?_)
          refine ZD ?_
          repeat(first|refine Zeu ?_)
          repeat(first|refine Zes ?_|(refine ZaX ?_;rintro _ rfl))
          exact ZK
        | true =>
          rw [if_neg (by rw [hn];simp)] at he;rw [hn] at hN
          repeat(first|refine Zes ?_)
          refine ZD ?_
          repeat(first|refine Zeu ?_)
          repeat(first|refine Zes ?_)
          refine ZD ?_
          repeat(first|refine Zeu ?_)
          repeat(first|refine Zes ?_|(refine ZaX ?_;rintro _ rfl)|refine ZY ?_|refine Z1 ?_)
          exact Zcb
      rw [if_pos ⟨k1,k2⟩] at he
      repeat(first|refine Zes ?_)
      refine ZD ?_
      repeat(first|refine Zeu ?_)
      repeat(first|refine Zes ?_)
      refine ZD ?_
      repeat(first|refine Zeu ?_)
      repeat(first|refine Zes ?_)
      exact ZK
  rintro ⟨⟩ G ⟨hG,he⟩
  unfold XyA at he
  have hsl:XeG 6 (XN l) 0 i=some (XN (l.take i)):=XoH XaY (by omega)
  have hF:=XkR (l.take i) s.kind s.name (by rw [List.length_take];omega)
  have tF:∀ c ∈ [XN (l.take i),I s.kind,S s.name],Xk c:=TreeL.cons (XS _) (TreeL.cons (Xe _) (TreeL.cons (Xad _) TreeL.nil))
  by_cases c5:0≤Xw3 (l.take i) s.kind s.name
  · rw [if_pos c5] at he
    rw [decide_eq_true c5] at hF
    repeat refine Xaf ?_
    refine ZD ?_
    repeat(first|refine Z4 ?_|refine Zef ?_|refine Y_k rfl rfl rfl (by decide) (fun _=>Iso.K rfl rfl rfl rfl hF tF) ?_|refine Zeu ?_|refine Y_q rfl rfl rfl (by decide) (Xch rfl rfl rfl) ?_)
    repeat(first|refine Zes ?_)
    exact ZK
  rw [if_neg c5] at he
  rw [decide_eq_false c5] at hF
  repeat refine Xaf ?_
  refine ZD ?_
  repeat(first|refine Z4 ?_|refine Zef ?_|refine Y_k rfl rfl rfl (by decide) (fun _=>Iso.K rfl rfl rfl rfl hF tF) ?_|refine Zeu ?_|refine Y_q rfl rfl rfl (by decide) (Xch rfl rfl rfl) ?_)
  repeat(first|refine Zes ?_)
  refine Xg (S:=Nat) (fun k=>[(5,.ptr id 0),(78,Xf s.props),(79,I s.props.length),(80,I k)]) (fun k G=>k≤s.props.length∧Xhq s.props=Xhq (s.props.drop k)∧Has G [(id,⟨Xt s,100,true⟩)]) (fun k=>s.props.length - k) 0
    (.cons rfl (.cons rfl (.cons rfl (.cons rfl (.nil _))))) ⟨Nat.zero_le _,rfl,hG⟩ ?_
  clear hG
  rintro k G ⟨hk,hf,hG⟩
  by_cases hkl:k < s.props.length
  · obtain ⟨p,hp⟩:∃ p,s.props[k]?=some p:=⟨_,List.getElem?_eq_getElem hkl⟩
    have o1:Xav 2 ((s.props.flatMap XaL).drop ((k:Int).toNat * 2))=some (XaL p):=Xp (fun x=>by cases x;rfl) s.props k p hp
    rw [X2 hp,Xhq] at hf
    by_cases c6:p.key=20
    · rw [if_pos c6] at hf
      rw [hf,if_pos rfl] at he
      repeat(first|refine Zes ?_|refine Zc6 ?_|(refine Zz ?_;intro G hG)|(refine ZI ?_;intro id G hG))
      exact ZK
    rw [if_neg c6] at hf
    by_cases c7:p.key=1
    · rw [if_pos c7] at hf
      rw [hf,if_pos rfl] at he
      repeat(first|refine Zes ?_|refine Zc6 ?_|(refine Zz ?_;intro G hG)|(refine ZI ?_;intro id G hG))
      exact ZK
    rw [if_neg c7] at hf
    repeat(first|refine Zes ?_|refine Zc6 ?_|(refine Zz ?_;intro G hG)|(refine ZI ?_;intro id G hG))
    exact ⟨k+1,by omega,.cons rfl (.cons rfl (.cons rfl (.cons rfl (.nil _)))),by omega,hf,hG.tail⟩
  have e0:s.props.drop k=[]:=List.drop_eq_nil_of_le (by omega)
  rw [e0,Xhq] at hf
  rw [hf,if_neg (by simp)] at he
  have hE:=XlN s.kind
  have hC:=XkT (Xqc s.kind) s.props hps
  repeat(first|refine Zes ?_)
  repeat refine Xaf ?_
  refine ZD ?_
  repeat(first|refine Z4 ?_|refine Y_k rfl rfl rfl (by decide) (fun _=>Iso.K rfl rfl rfl rfl hE (TreeL.cons (Xe _) TreeL.nil)) ?_|refine Y_k rfl rfl rfl (by decide) (fun _=>Iso.K rfl rfl rfl rfl hC (TreeL.cons (Xe _) (TreeL.cons (XX _) TreeL.nil))) ?_|refine Zeu ?_)
  repeat(first|refine Zf ?_)
  exact XI rfl rfl (.refl _) (.v _) (by rw [← he])
end Go.Proofs.YtlcphjcpoinolaaGreat
