/- Part of the proof: the walk over the program and its laws: Lz. -/
import Derived.Test.YtlcphjcpoinolaaGreatP0
import Derived.Test.YtlcphjcpoinolaaGreatP45
import Derived.Test.YtlcphjcpoinolaaGreatP3
set_option linter.unusedVariables false
namespace Go.Proofs.YtlcphjcpoinolaaGreat
open Go.RowKit Go.Th
set_option maxRecDepth 20000
noncomputable def XqZ (s:ByteArray) (n:Int):Int:=Classical.choose (Xe6 s n)
theorem XoC (s:ByteArray) (n:Int):Iso Tryz.prog 199 [S s,I n] (fun p=>p=I (XqZ s n)):=Classical.choose_spec (Xe6 s n)
noncomputable def XuN:List Level→Nat→Int
  | [],_=>0
  | x::r,i =>
    if x.format < 1∨x.format > 7 then 3 else
    if x.start < 0∨x.start > 32767 then 2 else
    if XqZ x.template ((i:Int)+1)=0 then
      (if x.restart < 0∨x.restart > i then 5 else XuN r (i+1))
    else XqZ x.template ((i:Int)+1)
set_option maxHeartbeats 16000000 in
theorem Xhy (l:List Level) (hl:l.length≤100000):∃ e,Iso Tryz.prog 170 [XcM l] (fun p=>p=I e):=by
  have hG:=Xd
  by_cases h0:l.length=0
  · refine ⟨11,?_⟩
    refine Xb Tryz.func170 rfl rfl rfl ?_
    unfold XcM XaE
    repeat(first|refine Zes ?_)
    exact Zaf
  · by_cases h9:l.length > 9
    · refine ⟨9,?_⟩
      refine Xb Tryz.func170 rfl rfl rfl ?_
      unfold XcM XaE
      repeat(first|refine Zes ?_)
      exact Zaf
    · refine ⟨XuN l 0,?_⟩
      refine Xb Tryz.func170 rfl rfl rfl ?_
      unfold XcM XaE
      repeat(first|refine Zes ?_)
      refine Xg (S:=Nat) (fun i=>[(14,.tr (l.flatMap Xax) l.length 4),(15,I l.length),(16,I i)]) (fun i G=>i≤l.length∧XuN l 0=XuN (l.drop i) i∧Has G []) (fun i=>l.length - i) 0
        (.cons rfl (.cons rfl (.cons rfl (.nil _)))) ⟨Nat.zero_le _,rfl,hG⟩ ?_
      clear hG
      rintro i G ⟨hi,hf,hG⟩
      by_cases hil:i < l.length
      · obtain ⟨x,hx⟩:∃ x,l[i]?=some x:=⟨_,List.getElem?_eq_getElem hil⟩
        have hk:=XoC x.template ((i:Int)+1)
        have hc:=Xp XgN l i x hx
        rw [X2 hx,XuN] at hf
        generalize XqZ x.template ((i:Int)+1)=te at hk hf
        obtain ⟨Y,hY⟩:∃ Y,Y=XuN l 0:=⟨_,rfl⟩
        rw [← hY] at hf ⊢
        obtain ⟨k,s,t,r⟩:=x
        simp only at hf hk
        repeat(first|refine Zez ?_)
        refine Zj ?_
        refine Zc ?_
        refine Zb ?_
        repeat(first|refine Xn rfl rfl (by decide) (Xc (cells:=l.flatMap Xax) rfl rfl rfl (by omega) (by exact hc)) ?_|refine Zet ?_|(refine Zz ?_;intro G hG)|(refine ZI ?_;intro id G hG))
        refine Za ?_
        refine Xz 4 hG rfl ?_
        clear hG
        intro G hG
        by_cases a1:k < 1
        · rw [if_pos (.inl a1)] at hf
          repeat(first|refine Zes ?_)
          exact Za8
        · by_cases a2:k > 7
          · rw [if_pos (.inr a2)] at hf
            repeat(first|refine Zes ?_)
            exact Za8
          · rw [if_neg (by omega)] at hf
            by_cases a3:s < 0
            · rw [if_pos (.inl a3)] at hf
              repeat(first|refine Zes ?_)
              exact Za8
            · by_cases a4:s > 32767
              · rw [if_pos (.inr a4)] at hf
                repeat(first|refine Zes ?_)
                exact Za8
              · rw [if_neg (by omega)] at hf
                by_cases a5:te=0
                · rw [if_pos a5] at hf
                  by_cases a6:r < 0
                  · rw [if_pos (.inl a6)] at hf
                    repeat(first|refine Zes ?_|(refine Zb9 ?_;rintro _ rfl))
                    exact Za8
                  · by_cases a7:r > i
                    · rw [if_pos (.inr a7)] at hf
                      repeat(first|refine Zes ?_|(refine Zb9 ?_;rintro _ rfl))
                      exact Za8
                    · rw [if_neg (by omega)] at hf
                      repeat(first|refine Zes ?_|(refine Zb9 ?_;rintro _ rfl))
                      exact Za4
                · rw [if_neg a5] at hf
                  repeat(first|refine Zes ?_|(refine Zb9 ?_;rintro _ rfl))
                  exact Za8
      · have e0:l.drop i=[]:=List.drop_eq_nil_of_le (by omega)
        rw [e0,XuN] at hf
        repeat(first|refine Zes ?_)
        exact XI rfl rfl (.refl _) (Xe _) (by first | (rw [hf];done) | (rw [hf];rfl))
end Go.Proofs.YtlcphjcpoinolaaGreat
