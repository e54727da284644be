/- Part of the proof: the walk over the program and its laws: Lv. -/
import Derived.Test.YtlcphjcpoinolaaGreatP0
import Derived.Test.YtlcphjcpoinolaaGreatP43
set_option linter.unusedVariables false
namespace Go.Proofs.YtlcphjcpoinolaaGreat
open Go.RowKit Go.Th
set_option maxRecDepth 20000
def Xlh (s:ByteArray) (x:Sn):Sn:=if XE s x.a=37 then Xj5 s x else ⟨x.a+1,x.lit++[UInt8.ofNat (XE s x.a)],x.ps,x.pl,x.e⟩
def XnW (s:ByteArray) (x:Sn):Bool:=if x.a < s.size then decide (x.e=0) else false
def XeD (s:ByteArray):Nat→Sn→Sn
  | 0,x=>x
  | k+1,x=>if XnW s x=true then XeD s k (Xlh s x) else x
def Xw6 (x:Sn):Sn:=⟨x.a,[],XbW x.lit x.ps,x.pl,if x.e=0 then (if x.pl > 9 then 9 else 0) else x.e⟩
def XsC (x:Sn):Prop:=x.ps.length+x.lit.length≤x.a∧0≤x.pl∧x.pl≤x.a
theorem Xih (lit:List UInt8) (ps:List Pt):(XbW lit ps).length≤ps.length+lit.length:=by
  unfold XbW
  split
  · omega
  · rw [List.length_append];simp only [List.length_cons,List.length_nil];omega
theorem XuE {s:ByteArray} {x:Sn} (h:XsC x):XsC (Xj5 s x)∧(Xj5 s x=⟨x.a,x.lit,x.ps,x.pl,14⟩∨x.a+2≤(Xj5 s x).a):=by
  obtain ⟨h1,h2,h3⟩:=h
  have hf:=Xih x.lit x.ps
  unfold Xj5
  split
  · exact Zc3
  · split
    · exact Zc3
    · split
      · split
        · exact ⟨⟨by simp only [List.length_append,List.length_cons,List.length_nil];omega,by simp only;omega,by simp only;omega⟩,.inr (by simp only;omega)⟩
        · exact ⟨⟨h1,h2,h3⟩,.inl rfl⟩
      · exact ⟨⟨h1,h2,h3⟩,.inl rfl⟩
theorem XBr {s:ByteArray} {x:Sn} (h:XE s x.a=37):Xlh s x=Xj5 s x:=if_pos h
theorem XBs {s:ByteArray} {x:Sn} (h:¬ XE s x.a=37):Xlh s x=⟨x.a+1,x.lit++[UInt8.ofNat (XE s x.a)],x.ps,x.pl,x.e⟩:=if_neg h
theorem XsZ {s:ByteArray} {x:Sn} (h:XsC x):XsC (Xlh s x)∧(Xlh s x=⟨x.a,x.lit,x.ps,x.pl,14⟩∨x.a+1≤(Xlh s x).a):=by
  unfold Xlh
  split
  · obtain ⟨h1,h2⟩:=XuE (s:=s) h
    exact ⟨h1,h2.imp id (fun h=>by omega)⟩
  · obtain ⟨h1,h2,h3⟩:=h
    exact Zc3
theorem XyG {s:ByteArray} {x:Sn}:(Xlh s x).a≤x.a+3:=by
  unfold Xlh Xj5
  repeat' split
  all_goals simp only
  all_goals omega
theorem Xnl {s:ByteArray} {x:Sn} {k:Nat} (hg:XnW s x=true) (hx:x.a < s.size) (hk:s.size - x.a < k) (hok:XsC x) :
    ∃ j,k=j+1∧XeD s k x=XeD s j (Xlh s x)∧XsC (Xlh s x)∧(Xlh s x).a≤s.size+3∧(XnW s (Xlh s x)=true→s.size - (Xlh s x).a < j):=by
  obtain ⟨j,rfl⟩:∃ j,k=j+1:=⟨k - 1,by omega⟩
  have ha:=XyG (s:=s) (x:=x)
  obtain ⟨h1,h2⟩:=XsZ (s:=s) hok
  refine ⟨j,rfl,?_,h1,by omega,fun h=>?_⟩
  · rw [XeD,if_pos hg]
  · rcases h2 with h2 | h2
    · rw [h2] at h
      unfold XnW at h
      simp at h
    · omega
theorem XjS {s:ByteArray} {x:Sn} (h:XnW s x=false):∀ k,XeD s k x=x
  | 0=>rfl
  | k+1=>by rw [XeD,h];rfl
theorem u8of (n:Nat) (h:n < 256):(UInt8.ofNat n).toNat=n:=UInt8.toNat_ofNat_of_lt h
set_option maxHeartbeats 32000000 in
theorem Xt9 (c:Nat) (s:ByteArray) (hs:s.size≤64) (G:Xi) (K:List (Nat × Blk)) (hG:Has G ((c,scB s 0 XrG XaQ XaQ 0 0)::K)) :
    AC Tryz.prog 230 [.ptr c 0] G (fun p G'=>p=.tup []∧SnH c s (Xw6 (XeD s (s.size+1) ⟨0,[],[],0,0⟩)) K G'):=by
  obtain ⟨Y,hY⟩:∃ Y,Y=XeD s (s.size+1) ⟨0,[],[],0,0⟩:=⟨_,rfl⟩
  rw [← hY]
  refine Xv Tryz.func230 rfl rfl rfl ?_
  unfold scB at hG
  refine XcD 0 4 284 3 hG rfl rfl ?_
  clear hG
  intro po G hG
  have hS:SnH c s ⟨0,[],[],0,0⟩ K G:=⟨XrG,XaQ,po,[],.inl rfl,.inl ⟨rfl,rfl,rfl⟩,hG.perm (List.Perm.swap _ _ _)⟩
  clear hG
  refine Zc ?_
  refine Zj ?_
  refine Xg (S:=Nat × Sn) (fun _=>[(0,.ptr c 0)]) (fun x G=>Y=XeD s x.1 x.2∧XsC x.2∧x.2.a≤s.size+3∧(XnW s x.2=true→s.size - x.2.a < x.1)∧SnH c s x.2 K G) (fun x=>x.1) (s.size+1,⟨0,[],[],0,0⟩)
    (.cons rfl (.nil _)) ⟨hY,⟨Nat.le_refl _,by simp only;omega,by simp only;omega⟩,by simp only;omega,fun _=>by simp only;omega,hS⟩ ?_
  clear hS hY
  rintro ⟨k,x⟩ G ⟨hY,hok,ha3,hk,hS⟩
  simp only at hY hok hk hS ha3
  obtain ⟨hk1,hk2,hk3⟩:=id hok
  refine Xe5 hS ?_
  clear hS
  intro G ad lo po had hG
  unfold scB at hG
  refine Zc ?_
  refine Zc ?_
  refine ZD ?_
  by_cases h1:x.a < s.size
  · repeat(first|refine Z4 ?_|refine ZU ?_|refine Zeu ?_|refine Y_q rfl rfl rfl (by decide) (Xjz rfl rfl) ?_|refine Xfn (XP rfl rfl rfl rfl) rfl (by decide) rfl rfl rfl rfl (by decide) ?_|refine ZaU ?_)
    by_cases h2:x.e=0
    · have hg:XnW s x=true:=by unfold XnW;rw [if_pos h1];exact decide_eq_true h2
      obtain ⟨j,rfl,r1,r2,r3,r4⟩:=Xnl hg h1 (hk hg) hok
      rw [r1] at hY
      obtain ⟨b,hb⟩:∃ b,XE s x.a=b:=⟨_,rfl⟩
      have hbl:b < 256:=hb ▸ Xhp s x.a
      have hb':XE s ((x.a:Int)).toNat=b:=by rw [Int.toNat_natCast];exact hb
      by_cases h37:b=37
      · have hpc:=Xnx c s x h1 hs ⟨hk2,by omega⟩ (by omega) (by omega) G K (.of had hG)
        rw [← XBr (hb.trans h37)] at hpc
        repeat(first|refine Zez ?_|refine ZY ?_)
        refine Zj ?_
        refine Zc ?_
        refine Zc ?_
        refine ZD ?_
        repeat(first|refine Z4 ?_|refine Zd9 ?_|refine Zeu ?_)
        repeat(first|refine Zez ?_)
        refine X5 rfl rfl rfl rfl rfl rfl (by decide) hpc ?_
        clear hG hpc
        rintro _ G ⟨rfl,hS⟩
        repeat(first|refine Za ?_|refine ZF ?_|refine XbB ?_|refine ZY ?_|refine Xbh ?_)
        exact ⟨(j,Xlh s x),Nat.lt_succ_self _,.cons rfl (.nil _),hY,r2,r3,r4,hS⟩
      · have hw:=XfW c lo s x.a x.pl x.e ad (.sl po 0 x.ps.length 3) x.lit (UInt8.ofNat b) (by omega) had G _ hG
        rw [u8of b hbl] at hw
        have hwx:=fun H (h:H=G)=>h ▸ hw
        rw [XBs (by rw [hb];exact h37),hb] at hY r2 r3 r4
        repeat(first|refine Zez ?_|refine ZY ?_)
        refine Zj ?_
        refine Zc ?_
        refine Zc ?_
        refine ZD ?_
        repeat(first|refine Z4 ?_|refine Zd9 ?_|refine Zeu ?_)
        repeat(first|refine Zez ?_)
        refine Xoq [12] [fun H=>∃ lo',Has H ((c,scB s x.a (.ptr c 2) (.sl lo' 0 (x.lit++[UInt8.ofNat b]).length 1) (.sl po 0 x.ps.length 3) x.pl x.e)::(lo',⟨XdH (x.lit++[UInt8.ofNat b]),5,true⟩)::(po,⟨x.ps.flatMap Xdg,284,true⟩)::K)] _ mixed (by decide +kernel) (N:=1) (by decide +kernel) rfl ?_
        repeat(first|refine ZcZ ?_|refine P_v rfl rfl rfl rfl (by decide) (fun _=>Xb1 b rfl rfl rfl (by omega) (by exact hb')) ?_|refine P_x 0 rfl (by decide +kernel) rfl rfl rfl rfl (by decide) rfl (fun H hH=>AC.X rfl rfl rfl rfl (hwx H hH)) ?_|refine ZeA ?_)
        clear hG hw hwx
        rintro G ⟨lo,hG⟩
        unfold scB at hG
        repeat(first|refine ZJ ?_|refine Zes ?_|refine ZL ?_|(refine Zz ?_;intro G hG)|refine ZY ?_|refine Z1 ?_)
        exact ⟨(j,⟨x.a+1,x.lit++[UInt8.ofNat b],x.ps,x.pl,x.e⟩),Nat.lt_succ_self _,.cons rfl (.nil _),hY,r2,r3,r4,.of (.inr rfl) hG⟩
    · have hg:XnW s x=false:=by unfold XnW;rw [if_pos h1];exact decide_eq_false h2
      rw [XjS hg] at hY
      subst hY
      have hE:Xw6 Y=⟨Y.a,[],XbW Y.lit Y.ps,Y.pl,if Y.e=0 then (if Y.pl > 9 then 9 else 0) else Y.e⟩:=rfl
      have hfl:=Xi4 c s Y.a Y.pl Y.e Y.lit Y.ps (by omega) (by omega) G K (.of had hG)
      repeat(first|refine Zez ?_|refine ZF ?_)
      refine X5 rfl rfl rfl rfl rfl rfl (by decide) hfl ?_
      clear hG hfl
      rintro _ G ⟨rfl,hS⟩
      refine Za ?_
      refine Xe5 hS ?_
      clear hS
      intro G ad lo po had hG
      unfold scB at hG
      obtain ⟨pl,hpl⟩:∃ v,v=Y.pl:=⟨_,rfl⟩
      obtain ⟨e,he⟩:∃ v,v=Y.e:=⟨_,rfl⟩
      obtain ⟨a,hae⟩:∃ v,v=Y.a:=⟨_,rfl⟩
      generalize XbW Y.lit Y.ps=qs at hG hE
      rw [← hpl,← he,← hae] at hG
      rw [← hpl,← he,← hae] at hE
      by_cases h3:e=0
      · by_cases h4:pl > 9
        · rw [if_pos h3,if_pos h4] at hE
          repeat(first|refine Zes ?_|refine ZJ ?_|refine ZL ?_|(refine Zz ?_;intro G hG))
          rw [hE]
          exact ZaN
        · rw [if_pos h3,if_neg h4] at hE
          repeat(first|refine Zes ?_|refine ZJ ?_|refine ZL ?_|(refine Zz ?_;intro G hG))
          first | (exfalso;omega) | (rw [hE,← h3];exact Xbr rfl (.inl rfl) ⟨rfl,.of had hG⟩)
      · rw [if_neg h3] at hE
        repeat(first|refine Zes ?_|refine ZL ?_)
        rw [hE]
        exact ZaN
  · have hg:XnW s x=false:=by unfold XnW;rw [if_neg h1]
    repeat(first|refine Z4 ?_|refine Zeu ?_|refine Y_q rfl rfl rfl (by decide) (Xjz rfl rfl) ?_)
    rw [XjS hg] at hY
    subst hY
    have hE:Xw6 Y=⟨Y.a,[],XbW Y.lit Y.ps,Y.pl,if Y.e=0 then (if Y.pl > 9 then 9 else 0) else Y.e⟩:=rfl
    have hfl:=Xi4 c s Y.a Y.pl Y.e Y.lit Y.ps (by omega) (by omega) G K (.of had hG)
    repeat(first|refine Zez ?_|refine ZF ?_)
    refine X5 rfl rfl rfl rfl rfl rfl (by decide) hfl ?_
    clear hG hfl
    rintro _ G ⟨rfl,hS⟩
    refine Za ?_
    refine Xe5 hS ?_
    clear hS
    intro G ad lo po had hG
    unfold scB at hG
    obtain ⟨pl,hpl⟩:∃ v,v=Y.pl:=⟨_,rfl⟩
    obtain ⟨e,he⟩:∃ v,v=Y.e:=⟨_,rfl⟩
    obtain ⟨a,hae⟩:∃ v,v=Y.a:=⟨_,rfl⟩
    generalize XbW Y.lit Y.ps=qs at hG hE
    rw [← hpl,← he,← hae] at hG
    rw [← hpl,← he,← hae] at hE
    by_cases h3:e=0
    · by_cases h4:pl > 9
      · rw [if_pos h3,if_pos h4] at hE
        repeat(first|refine Zes ?_|refine ZJ ?_|refine ZL ?_|(refine Zz ?_;intro G hG))
        rw [hE]
        exact ZaN
      · rw [if_pos h3,if_neg h4] at hE
        repeat(first|refine Zes ?_|refine ZL ?_)
        first | (exfalso;omega) | (rw [hE,← h3];exact Xbr rfl (.inl rfl) ⟨rfl,.of had hG⟩)
    · rw [if_neg h3] at hE
      repeat(first|refine Zes ?_|refine ZL ?_)
      rw [hE]
      exact ZaN
end Go.Proofs.YtlcphjcpoinolaaGreat
