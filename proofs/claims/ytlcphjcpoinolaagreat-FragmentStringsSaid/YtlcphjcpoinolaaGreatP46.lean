/- Part of the proof: the walk over the program and its laws: Sb. -/
import Derived.Test.YtlcphjcpoinolaaGreatP0
import Derived.Test.YtlcphjcpoinolaaGreatP18
set_option linter.unusedVariables false
namespace Go.Proofs.YtlcphjcpoinolaaGreat
open Go.RowKit Go.Th
set_option maxRecDepth 20000
theorem Xiq {α:Type} {enc:α→List PV} {sz:Nat} (henc:∀ x,(enc x).length=sz):∀ (l:List α) (i:Nat),(l.flatMap enc).take (i * sz)=(l.take i).flatMap enc
  | [],i=>by simp
  | x::l,0=>by simp
  | x::l,i+1=>by
    rw [List.flatMap_cons,List.take_succ_cons,List.flatMap_cons,show (i+1) * sz=(enc x).length+i * sz by rw [henc,Nat.add_mul];omega,List.take_length_add_append,Xiq henc l i]
theorem Xo7 {α:Type} {enc:α→List PV} {sz:Nat} (henc:∀ x,(enc x).length=sz) {l:List α} {i:Nat} (hi:i≤l.length):Xd7 sz (XaK enc sz l) 0 i=some (XaK enc sz (l.take i)):=by
  have e:Nat.beq sz sz=true:=Nat.beq_refl sz
  unfold Xd7 XaK
  simp only [e,Nat.zero_mul,List.drop_zero,Nat.sub_zero,Xiq henc,List.length_take,Nat.min_eq_left hi]
def XhH:List Prp→Bool
  | []=>false
  | p::l=>if p.key=20 then true else if p.key=1 then true else XhH l
def XrQ (l:List Style) (i:Nat):Int:=match l[i]? with
  | none=>0
  | some s=>if s.id < 1 then 18 else if 1073741824 < s.id then 18 else
    if 0 < i∧(l[i - 1]?).map Style.id=some s.id then 7 else if 0 < i∧(match l[i - 1]? with | some q=>decide (s.id < q.id) | none=>false)=true then 6 else
    if s.kind≠1∧s.kind≠2 then 3 else if Xe6 s.name=false then 13 else if 0≤Xw4 (l.take i) s.kind s.name then 7 else if XhH s.props=true then 4 else Xb0 (XqA s.kind) s.props
def Xyz (l:List Style) (i:Nat) (s:Style):Int:=if 0≤Xw4 (l.take i) s.kind s.name then 7 else if XhH s.props=true then 4 else Xb0 (XqA s.kind) s.props
set_option maxHeartbeats 32000000 in
theorem XuG (l:List Style) (i:Nat) (hi:i < l.length) (hl:l.length≤1000000) (hp:∀ x ∈ l,x.props.length≤1000000):Iso Tryz.prog 165 [XL l,I i] (fun p=>p=I (XrQ l i)):=by
  have hG:=Xc
  obtain ⟨s,hs⟩:∃ s,l[i]?=some s:=⟨_,List.getElem?_eq_getElem hi⟩
  have hps:=hp s (List.mem_of_getElem? hs)
  have hc:=Xu Xa5 l i s hs
  obtain ⟨e,he⟩:∃ e,XrQ l i=e:=⟨_,rfl⟩
  rw [he]
  unfold XrQ at he
  rw [hs] at he
  dsimp only at he
  refine Xb Tryz.func165 rfl rfl rfl ?_
  refine Zc ?_
  refine Zb ?_
  repeat(first|refine Zd ?_)
  refine Za ?_
  refine Zc ?_
  refine Zb ?_
  repeat(first|refine ZbL ?_|refine Zd5 ?_|(refine ZA ?_;intro G hG)|(refine ZD ?_;intro id G hG))
  refine Za ?_
  refine Xb7 (L:=[(id,⟨Xt s,100,true⟩)]) hG ?_
  clear hG
  intro G hG
  refine XbR (S:=Unit) (fun _=>[(0,XL l),(1,I i),(5,.ptr id 0)]) (fun _ G=>Has G [(id,⟨Xt s,100,true⟩)]∧Xyz l i s=e) ?_ ?_
  · have hN:=XoK s.name
    have tN:∀ c ∈ [S s.name],Xi c:=TreeL.cons (XX _) TreeL.nil
    by_cases c1:s.id < 1
    · rw [if_pos c1] at he
      repeat(first|refine Zd1 ?_)
      exact ZK
    rw [if_neg c1] at he
    by_cases c2:1073741824 < s.id
    · rw [if_pos c2] at he
      repeat(first|refine Zd1 ?_)
      exact ZK
    rw [if_neg c2] at he
    by_cases h0:0 < i
    · obtain ⟨q,hq⟩:∃ q,l[i - 1]?=some q:=⟨_,List.getElem?_eq_getElem (by omega)⟩
      have o2:Xai 6 ((l.flatMap Xt).drop (((i:Int) - 1).toNat * 6))=some (Xt q):=by
        rw [show ((i:Int) - 1).toNat=i - 1 by omega];exact Xu Xa5 l (i - 1) q hq
      rw [hq] at he
      simp only [Option.map_some,Option.some.injEq] at he
      by_cases c3:q.id=s.id
      · rw [if_pos ⟨h0,c3⟩] at he
        repeat(first|refine Zd1 ?_)
        refine Zz ?_
        repeat(first|refine ZV ?_|refine Zar ?_|refine Zd2 ?_)
        repeat(first|refine Zd1 ?_)
        exact ZK
      rw [if_neg (fun h=>c3 h.2)] at he
      by_cases c4:s.id < q.id
      · rw [if_pos ⟨h0,decide_eq_true c4⟩] at he
        repeat(first|refine Zd1 ?_)
        refine Zz ?_
        repeat(first|refine ZV ?_|refine Zar ?_|refine Zd2 ?_)
        repeat(first|refine Zd1 ?_)
        refine Zz ?_
        repeat(first|refine ZV ?_|refine Zar ?_|refine Zd2 ?_)
        repeat(first|refine Zd1 ?_)
        exact ZK
      rw [if_neg (fun h=>c4 (of_decide_eq_true h.2))] at he
      by_cases k1:s.kind=1
      · rw [if_neg (fun h=>h.1 k1)] at he
        cases hn:Xe6 s.name with
        | false =>
          rw [if_pos hn] at he;rw [hn] at hN
          repeat(first|refine Zd1 ?_)
          refine Zz ?_
          repeat(first|refine ZV ?_|refine Zar ?_|refine Zd2 ?_)
          repeat(first|refine Zd1 ?_)
          refine Zz ?_
          repeat(first|refine ZV ?_|refine Zar ?_|refine Zd2 ?_)
          repeat(first|refine Zd1 ?_|(refine ZaU ?_;rintro _ rfl))
          exact ZK
        | true =>
          rw [if_neg (by rw [hn];simp)] at he;rw [hn] at hN
          repeat(first|refine Zd1 ?_)
          refine Zz ?_
          repeat(first|refine ZV ?_|refine Zar ?_|refine Zd2 ?_)
          repeat(first|refine Zd1 ?_)
          refine Zz ?_
          repeat(first|refine ZV ?_|refine Zar ?_|refine Zd2 ?_)
          repeat(first|refine Zd1 ?_|(refine ZaU ?_;rintro _ rfl)|refine ZN ?_|refine ZU ?_)
          exact Zb1
      by_cases k2:s.kind=2
      · rw [if_neg (fun h=>h.2 k2)] at he
        cases hn:Xe6 s.name with
        | false =>
          rw [if_pos hn] at he;rw [hn] at hN
          repeat(first|refine Zd1 ?_)
          refine Zz ?_
          repeat(first|refine ZV ?_|refine Zar ?_|refine Zd2 ?_)
          repeat(first|refine Zd1 ?_)
          refine Zz ?_
          repeat(first|refine ZV ?_|refine Zar ?_|refine Zd2 ?_)
          repeat(first|refine Zd1 ?_|(refine ZaU ?_;rintro _ rfl))
          exact ZK
        | true =>
          rw [if_neg (by rw [hn];simp)] at he;rw [hn] at hN
          repeat(first|refine Zd1 ?_)
          refine Zz ?_
          repeat(first|refine ZV ?_|refine Zar ?_|refine Zd2 ?_)
          repeat(first|refine Zd1 ?_)
          refine Zz ?_
          repeat(first|refine ZV ?_|refine Zar ?_|refine Zd2 ?_)
          repeat(first|refine Zd1 ?_|(refine ZaU ?_;rintro _ rfl)|refine ZN ?_|refine ZU ?_)
          exact Zb1
      rw [if_pos ⟨k1,k2⟩] at he
      repeat(first|refine Zd1 ?_)
      refine Zz ?_
      repeat(first|refine ZV ?_|refine Zar ?_|refine Zd2 ?_)
      repeat(first|refine Zd1 ?_)
      refine Zz ?_
      repeat(first|refine ZV ?_|refine Zar ?_|refine Zd2 ?_)
      repeat(first|refine Zd1 ?_)
      exact ZK
    · rw [if_neg (fun h=>h0 h.1),if_neg (fun h=>h0 h.1)] at he
      have o2:=hc
      by_cases k1:s.kind=1
      · rw [if_neg (fun h=>h.1 k1)] at he
        cases hn:Xe6 s.name with
        | false =>
          rw [if_pos hn] at he;rw [hn] at hN
          repeat(first|refine Zd1 ?_)
          refine Zz ?_
          repeat(first|refine Zd2 ?_)
          repeat(first|refine Zd1 ?_)
          refine Zz ?_
          repeat(first|refine Zd2 ?_)
          repeat(first|refine Zd1 ?_|(refine ZaU ?_;rintro _ rfl))
          exact ZK
        | true =>
          rw [if_neg (by rw [hn];simp)] at he;rw [hn] at hN
          repeat(first|refine Zd1 ?_)
          refine Zz ?_
          repeat(first|refine Zd2 ?_)
          repeat(first|refine Zd1 ?_)
          refine Zz ?_
          repeat(first|refine Zd2 ?_)
          repeat(first|refine Zd1 ?_|(refine ZaU ?_;rintro _ rfl)|refine ZN ?_|refine ZU ?_)
          exact Zb1
      by_cases k2:s.kind=2
      · rw [if_neg (fun h=>h.2 k2)] at he
        cases hn:Xe6 s.name with
        | false =>
          rw [if_pos hn] at he;rw [hn] at hN
          repeat(first|refine Zd1 ?_)
          refine Zz ?_
          repeat(first|refine Zd2 ?_)
          repeat(first|refine Zd1 ?_)
          refine Zz ?_
          repeat(first|refine Zd2 ?_)
          repeat(first|refine Zd1 ?_|(refine ZaU ?_;rintro _ rfl))
          exact ZK
        | true =>
          rw [if_neg (by rw [hn];simp)] at he;rw [hn] at hN
          repeat(first|refine Zd1 ?_)
          refine Zz ?_
          repeat(first|refine Zd2 ?_)
          repeat(first|refine Zd1 ?_)
          refine Zz ?_
          repeat(first|refine Zd2 ?_)
          repeat(first|refine Zd1 ?_|(refine ZaU ?_;rintro _ rfl)|refine ZN ?_|refine ZU ?_)
          exact Zb1
      rw [if_pos ⟨k1,k2⟩] at he
      repeat(first|refine Zd1 ?_)
      refine Zz ?_
      repeat(first|refine Zd2 ?_)
      repeat(first|refine Zd1 ?_)
      refine Zz ?_
      repeat(first|refine Zd2 ?_)
      repeat(first|refine Zd1 ?_)
      exact ZK
  rintro ⟨⟩ G ⟨hG,he⟩
  unfold Xyz at he
  have hsl:Xd7 6 (XL l) 0 i=some (XL (l.take i)):=Xo7 Xa5 (by omega)
  have hF:=Xlj (l.take i) s.kind s.name (by rw [List.length_take];omega)
  have tF:∀ c ∈ [XL (l.take i),I s.kind,S s.name],Xi c:=TreeL.cons (XI _) (TreeL.cons (Xe _) (TreeL.cons (XX _) TreeL.nil))
  by_cases c5:0≤Xw4 (l.take i) s.kind s.name
  · rw [if_pos c5] at he
    rw [decide_eq_true c5] at hF
    repeat refine X4 ?_
    refine Zz ?_
    repeat(first|refine Zae ?_|refine ZdY ?_|refine Y_k rfl rfl rfl (by decide) (fun _=>Iso.K rfl rfl rfl rfl hF tF) ?_|refine Zd2 ?_|refine Y_q rfl rfl rfl (by decide) (XcW rfl rfl rfl) ?_)
    repeat(first|refine Zd1 ?_)
    exact ZK
  rw [if_neg c5] at he
  rw [decide_eq_false c5] at hF
  repeat refine X4 ?_
  refine Zz ?_
  repeat(first|refine Zae ?_|refine ZdY ?_|refine Y_k rfl rfl rfl (by decide) (fun _=>Iso.K rfl rfl rfl rfl hF tF) ?_|refine Zd2 ?_|refine Y_q rfl rfl rfl (by decide) (XcW rfl rfl rfl) ?_)
  repeat(first|refine Zd1 ?_)
  refine Xg (S:=Nat) (fun k=>[(5,.ptr id 0),(78,Xn s.props),(79,I s.props.length),(80,I k)]) (fun k G=>k≤s.props.length∧XhH s.props=XhH (s.props.drop k)∧Has G [(id,⟨Xt s,100,true⟩)]) (fun k=>s.props.length - k) 0
    (.cons rfl (.cons rfl (.cons rfl (.cons rfl (.nil _))))) ⟨Nat.zero_le _,rfl,hG⟩ ?_
  clear hG
  rintro k G ⟨hk,hf,hG⟩
  by_cases hkl:k < s.props.length
  · obtain ⟨p,hp⟩:∃ p,s.props[k]?=some p:=⟨_,List.getElem?_eq_getElem hkl⟩
    have o1:Xai 2 ((s.props.flatMap Xa1).drop ((k:Int).toNat * 2))=some (Xa1 p):=Xu (fun x=>by cases x;rfl) s.props k p hp
    rw [Xak hp,XhH] at hf
    by_cases c6:p.key=20
    · rw [if_pos c6] at hf
      rw [hf,if_pos rfl] at he
      repeat(first|refine Zd1 ?_|refine ZcR ?_|(refine ZA ?_;intro G hG)|(refine ZD ?_;intro id G hG))
      exact ZK
    rw [if_neg c6] at hf
    by_cases c7:p.key=1
    · rw [if_pos c7] at hf
      rw [hf,if_pos rfl] at he
      repeat(first|refine Zd1 ?_|refine ZcR ?_|(refine ZA ?_;intro G hG)|(refine ZD ?_;intro id G hG))
      exact ZK
    rw [if_neg c7] at hf
    repeat(first|refine Zd1 ?_|refine ZcR ?_|(refine ZA ?_;intro G hG)|(refine ZD ?_;intro id G hG))
    exact ⟨k+1,by omega,.cons rfl (.cons rfl (.cons rfl (.cons rfl (.nil _)))),by omega,hf,hG.tail⟩
  have e0:s.props.drop k=[]:=List.drop_eq_nil_of_le (by omega)
  rw [e0,XhH] at hf
  rw [hf,if_neg (by simp)] at he
  have hE:=Xmi s.kind
  have hC:=Xll (XqA s.kind) s.props hps
  repeat(first|refine Zd1 ?_)
  repeat refine X4 ?_
  refine Zz ?_
  repeat(first|refine Zae ?_|refine Y_k rfl rfl rfl (by decide) (fun _=>Iso.K rfl rfl rfl rfl hE (TreeL.cons (Xe _) TreeL.nil)) ?_|refine Y_k rfl rfl rfl (by decide) (fun _=>Iso.K rfl rfl rfl rfl hC (TreeL.cons (Xe _) (TreeL.cons (XT _) TreeL.nil))) ?_|refine Zd2 ?_)
  repeat(first|refine Zf ?_)
  exact XJ rfl rfl (.refl _) (.v _) (by rw [← he])
end Go.Proofs.YtlcphjcpoinolaaGreat
