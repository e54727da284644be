/- Part of the proof: the walk over the program and its laws: Mk Fm. -/
import Derived.Test.YtlcphjcpoinolaaGreatP0
import Derived.Test.YtlcphjcpoinolaaGreatP35
import Derived.Test.YtlcphjcpoinolaaGreatP34
import Derived.Test.YtlcphjcpoinolaaGreatP26
import Derived.Test.YtlcphjcpoinolaaGreatP49
set_option linter.unusedVariables false
namespace Go.Proofs.YtlcphjcpoinolaaGreat
open Go.RowKit Go.Th
set_option maxRecDepth 20000
set_option maxHeartbeats 4000000 in
theorem XmQ (p:Nat) (hp:ptN p):Iso Tryz.prog 87 [I p] (fun q=>q=B true):=by
  have hG:=Xc
  obtain ⟨h1,h2⟩:=hp
  have hs:PV.v (.int .i64 (XgU .i64 (p:Nat) 11))=I ((p / 2048:Nat):Int):=congrArg (fun x=>PV.v (.int .i64 x)) (Xe1 p 11 (by decide))
  refine Xb Tryz.func87 rfl rfl rfl ?_
  repeat(first|refine Zd1 ?_|refine Xj rfl rfl (by decide) (OpV.same (Xgc rfl rfl rfl (by decide)) hs) ?_)
  exact Zbm
theorem XA6 (x:Nat) (h:x < 256):(.v (.int .u8 (x:Nat)):PV)=.v (.int .u8 ((UInt8.ofNat x).toNat:Nat)):=by
  rw [UInt8.toNat_ofNat',Nat.mod_eq_of_lt h]
theorem Xqz (p:Nat) (hp:p≤1114111):∀ x ∈ Xgj p,x < 256:=by
  unfold Xgj
  split
  · intro x hx;simp at hx;omega
  split
  · intro x hx;simp at hx;omega
  split
  · intro x hx;simp at hx;omega
  · intro x hx;simp at hx;omega
theorem XoG (p:Nat) (hp:p≤1114111):XbP (Xat p)=(Xgj p).map fun x=>PV.v (.int .u8 (x:Nat)):=by
  unfold XbP Xat
  rw [List.map_map]
  refine List.map_congr_left fun x hx=>?_
  exact (XA6 x (Xqz p hp x hx)).symm
theorem i8 {a:Int} {b:Nat} (h:a=(b:Nat)):PV.v (.int .u8 a)=.v (.int .u8 ((b:Nat):Int)):=by rw [h]
theorem i64 {a:Int} {b:Nat} (h:a=(b:Nat)):PV.v (.int .i64 a)=I ((b:Nat):Int):=by rw [h];rfl
set_option maxHeartbeats 16000000 in
theorem Xqy (p:Nat) (hp:p≤1114111) (G:Xh) (K:List (Nat × Blk)) (hG:Has G K) :
    AC Tryz.prog 88 [Xaw,I p] G (fun r G'=>∃ o,r=.sl o 0 (Xat p).length 1∧Has G' ((o,⟨XbP (Xat p),5,true⟩)::K)):=by
  have hbp:=XoG p hp
  have hlen:(Xat p).length=(Xgj p).length:=by unfold Xat;rw [List.length_map]
  rw [hbp,hlen]
  clear hbp hlen
  refine Xw Tryz.func88 rfl rfl rfl ?_
  refine XQ 0 5 1 hG rfl ?_
  clear hG
  intro o G hG
  unfold Xgj
  by_cases c1:p < 128
  · rw [if_pos c1]
    have e1:IntKind.u8.wrap (p:Nat)=((p:Nat):Int):=XcG p (by omega)
    repeat(first|refine Zd1 ?_|refine Xj rfl rfl (by decide) (Xaa rfl rfl e1) ?_|(refine ZbV ?_;intro lo2 G hG)|(refine ZL ?_;intro id G hG))
    exact ZbW
  rw [if_neg c1]
  by_cases c2:p < 2048
  · rw [if_pos c2]
    have s0:PV.v (.int .i64 (XgU .i64 (p:Nat) 6))=I ((p / 64:Nat):Int):=i64 (Xe1 p 6 (by decide))
    have w0:IntKind.u8.wrap ((p / 64:Nat):Int)=((p / 64:Nat):Int):=XcG _ (by omega)
    have o0:PV.v (.int .u8 (orK .u8 192 ((p / 64:Nat):Int)))=.v (.int .u8 ((192+p / 64:Nat):Int)):=i8 (XyC ⟨p / 64,by omega⟩)
    have a1:PV.v (.int .i64 (Xgn .i64 ((p:Nat):Int) 63))=I ((p % 64:Nat):Int):=i64 (Xmy _ (by omega))
    have w1:IntKind.u8.wrap ((p % 64:Nat):Int)=((p % 64:Nat):Int):=XcG _ (by omega)
    have o1:PV.v (.int .u8 (orK .u8 128 ((p % 64:Nat):Int)))=.v (.int .u8 ((128+p % 64:Nat):Int)):=i8 (Xih ⟨p % 64,by omega⟩)
    repeat(first|refine Zd1 ?_|refine ZcE ?_|refine ZcF ?_|refine ZcG ?_|refine ZcH ?_|refine ZcI ?_|refine ZcJ ?_|(refine ZbV ?_;intro lo2 G hG)|(refine ZL ?_;intro id G hG))
    exact ZbW
  rw [if_neg c2]
  by_cases c3:p < 65536
  · rw [if_pos c3]
    have s0:PV.v (.int .i64 (XgU .i64 (p:Nat) 12))=I ((p / 4096:Nat):Int):=i64 (Xe1 p 12 (by decide))
    have w0:IntKind.u8.wrap ((p / 4096:Nat):Int)=((p / 4096:Nat):Int):=XcG _ (by omega)
    have o0:PV.v (.int .u8 (orK .u8 224 ((p / 4096:Nat):Int)))=.v (.int .u8 ((224+p / 4096:Nat):Int)):=i8 (XyB ⟨p / 4096,by omega⟩)
    have s1:PV.v (.int .i64 (XgU .i64 (p:Nat) 6))=I ((p / 64:Nat):Int):=i64 (Xe1 p 6 (by decide))
    have a1:PV.v (.int .i64 (Xgn .i64 ((p / 64:Nat):Int) 63))=I ((p / 64 % 64:Nat):Int):=i64 (Xmy _ (by omega))
    have w1:IntKind.u8.wrap ((p / 64 % 64:Nat):Int)=((p / 64 % 64:Nat):Int):=XcG _ (by omega)
    have o1:PV.v (.int .u8 (orK .u8 128 ((p / 64 % 64:Nat):Int)))=.v (.int .u8 ((128+p / 64 % 64:Nat):Int)):=i8 (Xih ⟨p / 64 % 64,by omega⟩)
    have a2:PV.v (.int .i64 (Xgn .i64 ((p:Nat):Int) 63))=I ((p % 64:Nat):Int):=i64 (Xmy _ (by omega))
    have w2:IntKind.u8.wrap ((p % 64:Nat):Int)=((p % 64:Nat):Int):=XcG _ (by omega)
    have o2:PV.v (.int .u8 (orK .u8 128 ((p % 64:Nat):Int)))=.v (.int .u8 ((128+p % 64:Nat):Int)):=i8 (Xih ⟨p % 64,by omega⟩)
    repeat(first|refine Zd1 ?_|refine ZcE ?_|refine ZcF ?_|refine ZcG ?_|refine Xj rfl rfl (by decide) (OpV.same (Xgc rfl rfl rfl (by decide)) s1) ?_|refine ZcH ?_|refine ZcI ?_|refine ZcJ ?_|refine Xj rfl rfl (by decide) (OpV.same (XfF rfl rfl rfl) a2) ?_|refine Xj rfl rfl (by decide) (Xaa rfl rfl w2) ?_|refine Xj rfl rfl (by decide) (OpV.same (Xfe rfl rfl rfl) o2) ?_|(refine ZbV ?_;intro lo2 G hG)|(refine ZL ?_;intro id G hG))
    exact ZbW
  rw [if_neg c3]
  have s0:PV.v (.int .i64 (XgU .i64 (p:Nat) 18))=I ((p / 262144:Nat):Int):=i64 (Xe1 p 18 (by decide))
  have w0:IntKind.u8.wrap ((p / 262144:Nat):Int)=((p / 262144:Nat):Int):=XcG _ (by omega)
  have o0:PV.v (.int .u8 (orK .u8 240 ((p / 262144:Nat):Int)))=.v (.int .u8 ((240+p / 262144:Nat):Int)):=i8 (XyA ⟨p / 262144,by omega⟩)
  have s1:PV.v (.int .i64 (XgU .i64 (p:Nat) 12))=I ((p / 4096:Nat):Int):=i64 (Xe1 p 12 (by decide))
  have a1:PV.v (.int .i64 (Xgn .i64 ((p / 4096:Nat):Int) 63))=I ((p / 4096 % 64:Nat):Int):=i64 (Xmy _ (by omega))
  have w1:IntKind.u8.wrap ((p / 4096 % 64:Nat):Int)=((p / 4096 % 64:Nat):Int):=XcG _ (by omega)
  have o1:PV.v (.int .u8 (orK .u8 128 ((p / 4096 % 64:Nat):Int)))=.v (.int .u8 ((128+p / 4096 % 64:Nat):Int)):=i8 (Xih ⟨p / 4096 % 64,by omega⟩)
  have s2:PV.v (.int .i64 (XgU .i64 (p:Nat) 6))=I ((p / 64:Nat):Int):=i64 (Xe1 p 6 (by decide))
  have a2:PV.v (.int .i64 (Xgn .i64 ((p / 64:Nat):Int) 63))=I ((p / 64 % 64:Nat):Int):=i64 (Xmy _ (by omega))
  have w2:IntKind.u8.wrap ((p / 64 % 64:Nat):Int)=((p / 64 % 64:Nat):Int):=XcG _ (by omega)
  have o2:PV.v (.int .u8 (orK .u8 128 ((p / 64 % 64:Nat):Int)))=.v (.int .u8 ((128+p / 64 % 64:Nat):Int)):=i8 (Xih ⟨p / 64 % 64,by omega⟩)
  have a3:PV.v (.int .i64 (Xgn .i64 ((p:Nat):Int) 63))=I ((p % 64:Nat):Int):=i64 (Xmy _ (by omega))
  have w3:IntKind.u8.wrap ((p % 64:Nat):Int)=((p % 64:Nat):Int):=XcG _ (by omega)
  have o3:PV.v (.int .u8 (orK .u8 128 ((p % 64:Nat):Int)))=.v (.int .u8 ((128+p % 64:Nat):Int)):=i8 (Xih ⟨p % 64,by omega⟩)
  repeat(first|refine Zd1 ?_|refine ZcE ?_|refine ZcF ?_|refine ZcG ?_|refine Xj rfl rfl (by decide) (OpV.same (Xgc rfl rfl rfl (by decide)) s1) ?_|refine ZcH ?_|refine ZcI ?_|refine ZcJ ?_|refine Xj rfl rfl (by decide) (OpV.same (Xgc rfl rfl rfl (by decide)) s2) ?_|refine Xj rfl rfl (by decide) (OpV.same (XfF rfl rfl rfl) a2) ?_|refine Xj rfl rfl (by decide) (Xaa rfl rfl w2) ?_|refine Xj rfl rfl (by decide) (OpV.same (Xfe rfl rfl rfl) o2) ?_|refine Xj rfl rfl (by decide) (OpV.same (XfF rfl rfl rfl) a3) ?_|refine Xj rfl rfl (by decide) (Xaa rfl rfl w3) ?_|refine Xj rfl rfl (by decide) (OpV.same (Xfe rfl rfl rfl) o3) ?_|(refine ZbV ?_;intro lo2 G hG)|(refine ZL ?_;intro id G hG))
  exact ZbW
set_option maxHeartbeats 8000000 in
theorem XsS (p:Nat) (hp:ptN p):Iso Tryz.prog 35 [XlT [(p:Int)]] (fun q=>q=.tup [S ⟨(Xat p).toArray⟩,I 0]):=by
  have hG:=Xc
  have hk:=XmQ p hp
  have tp:∀ c ∈ [I p],Xi c:=TreeL.cons (Xe _) TreeL.nil
  have hne:Xat p≠[]:=by unfold Xat Xgj;(repeat' split) <;> simp
  have hlen:(Xat p).length≤4:=by unfold Xat Xgj;(repeat' split) <;> simp
  refine Xb Tryz.func35 rfl rfl rfl ?_
  repeat(first|refine Zd1 ?_)
  refine Xg (S:=Nat) (fun i=>if i=0 then [(2,S ByteArray.empty),(3,I 0),(4,Xaw),(7,.tr [I (p:Int)] 1 1),(8,I 1),(9,I 0)] else [(3,I 0),(4,.sl (i - 1) 0 (Xat p).length 1),(8,I 1),(9,I 1)])
    (fun i G=>if i=0 then Has G [] else Has G [(i - 1,⟨XbP (Xat p),5,true⟩)]) (fun i=>if i=0 then 1 else 0) 0 (by
      rw [if_pos rfl]
      exact .cons rfl (.cons rfl (.cons rfl (.cons rfl (.cons rfl (.cons rfl (.nil _))))))) hG ?_
  clear hG
  rintro i G hG
  by_cases h0:i=0
  · subst h0
    have hG:Has G []:=hG
    show wpA _ _ _ _ [(2,S ByteArray.empty),(3,I 0),(4,Xaw),(7,.tr [I (p:Int)] 1 1),(8,I 1),(9,I 0)] G
    repeat(first|refine Zd1 ?_|refine ZJ ?_|refine Xj rfl rfl (by decide) (Xf (cells:=[I (p:Int)]) rfl rfl rfl (by omega) rfl) ?_|(refine Xr rfl rfl rfl rfl rfl rfl (by decide) hk tp ?_;rintro _ rfl)|(refine X0 rfl rfl rfl rfl rfl rfl (by decide) (Xqy p hp.1 _ _ hG) ?_;clear hG;rintro _ G ⟨o,rfl,hG⟩))
    exact ⟨o+1,by simp,by rw [if_neg (by omega)];exact .cons rfl (.cons rfl (.cons rfl (.cons rfl (.nil _)))),by rw [if_neg (by omega)];exact hG⟩
  · rw [if_neg h0] at hG
    generalize hE:(if i=0 then [(2,S ByteArray.empty),(3,I 0),(4,Xaw),(7,.tr [I (p:Int)] 1 1),(8,I 1),(9,I 0)] else [(3,I 0),(4,.sl (i - 1) 0 (Xat p).length 1),(8,I 1),(9,I 1)]:Env)=E0
    rw [if_neg h0] at hE
    subst hE
    generalize i - 1=o at hG ⊢
    repeat(first|refine Zd1 ?_|refine Xj rfl rfl (by decide) (XmL rfl rfl rfl (hG.get 0 _ _ rfl) rfl hne) ?_)
    exact Xg0 rfl rfl rfl (.refl _) (.refl _) (XX _) (Xe _) rfl
end Go.Proofs.YtlcphjcpoinolaaGreat
namespace Go.Proofs.YtlcphjcpoinolaaGreat
open Go.RowKit Go.Th
set_option maxRecDepth 20000
def txt (l:List UInt8):ByteArray:=⟨l.toArray⟩
def itT (t:ByteArray):Item:=.mk 1 0 0 t XcZ [] []
def itP:Item:=.mk 2 0 0 ByteArray.empty XcZ [] []
def itB (c:Int):Item:=.mk 4 c 0 ByteArray.empty XcZ [] []
def itN (p:Nat):Item:=if p=10 then itP else if p=11 then itB 1 else if p=12 then itB 2 else if p=9 then itB 3 else itT (txt (Xat p))
theorem XiO (k c:Int) (t:ByteArray):WkL [I k,I c,I 0,S t,Xaw,I 0,I 0,Xaw,Xaw,Xaw,Xaw] (Xl (.mk k c 0 t XcZ [] [])):=by
  rw [XK]
  exact .cons (.refl _) (.cons (.refl _) (.cons (.refl _) (.cons (.refl _) (.cons (.nil 2) (.cons (.refl _) (.cons (.refl _) (.cons (.nil 2) (.cons (.nil 4) (.cons (.nil 11) (.cons (.nil 6) .nil))))))))))
theorem XgO {P:Program} {n:Nat} {Q:QA} {E:Env} {H:Xh} {ops:Array Oper} {rest:List Oper} (t:Nat) {id off len sz:Nat} {B:Blk} {cs:List PV} {q:PV} (ht:E.get t=some (.sl id off len sz)) (hB:H[id]?=some (some B)) (hc:Xai (len * sz) (B.cells.drop off)=some cs)
    (e:PV.tr cs len sz=q) (h:wpL P n ops rest Q ((t,q)::E) (H.set id none)):wpL P n ops rest Q E H:=XnL t ht hB hc (by rw [e];exact h)
set_option maxHeartbeats 32000000 in
theorem XkC (s:ByteArray) (q:List Nat) (hq:XAS s=q.map fun p=>((p:Nat):Int)) (hp:∀ p ∈ q,ptN p) (hs:s.size≤100000) (hv:XaZ s=true) (hlen:q.length≤1000000)
    (hnm:Iso Tryz.prog 32 [Xk (q.map itN)] (fun p=>p=Xk (XaF (q.map itN)))):Iso Tryz.prog 12 [S s] (fun p=>p=Xk (XaF (q.map itN))):=by
  have hG:=Xc
  have hpt:=XoI s hs hv
  rw [hq] at hpt
  have ts:∀ c ∈ [S s],Xi c:=TreeL.cons (XX _) TreeL.nil
  obtain ⟨J,hJ⟩:∃ J,J=XaF (q.map itN):=⟨_,rfl⟩
  rw [← hJ] at hnm ⊢
  refine Xb Tryz.func12 rfl rfl rfl ?_
  repeat refine X4 ?_
  refine Zb ?_
  repeat(first|refine Zd ?_)
  refine Za ?_
  repeat refine X4 ?_
  refine Zb ?_
  repeat(first|refine Zd ?_)
  refine Za ?_
  refine XQ 3 46 11 hG rfl ?_
  clear hG
  intro o G hG
  repeat(first|refine Zd1 ?_|(refine Xr rfl rfl rfl rfl rfl rfl (by decide) hpt ts ?_;rintro _ rfl)|refine ZS ?_)
  refine Xg (S:=Nat × Nat) (fun st=>[(3,.sl st.2 0 st.1 11),(4,.tr ((q.map fun p=>((p:Nat):Int)).map I) q.length 1),(6,I st.1)])
    (fun st G=>st.1≤q.length∧Has G [(st.2,⟨((q.take st.1).map itN).flatMap Xl,46,true⟩)]) (fun st=>q.length - st.1) (0,o)
    (.cons rfl (.cons (by unfold XlT;rw [List.length_map];rfl) (.cons rfl (.nil _)))) ⟨Nat.zero_le _,hG⟩ ?_
  clear hG
  rintro ⟨i,o⟩ G ⟨hi,hG⟩
  dsimp only at hi hG
  dsimp only
  by_cases hil:i < q.length
  rotate_left
  · rw [List.take_of_length_le (by omega)] at hG
    have hlq:(q.map itN).length=q.length:=List.length_map ..
    have hi':i=q.length:=by omega
    subst hi'
    have e3:PV.tr ((q.map itN).flatMap Xl) q.length 11=Xk (q.map itN):=by
      unfold Xk XaK
      rw [hlq]
    repeat(first|refine Zd1 ?_)
    refine XgO 52 rfl (hG.get 0 _ _ rfl) (Xd6 (by rw [XC XU,hlq])) e3 ?_
    refine ZdU ?_
    rintro _ rfl
    repeat(first|refine Zd1 ?_)
    exact XJ rfl rfl (.refl _) (XF _) rfl
  obtain ⟨p,hx⟩:∃ p,q[i]?=some p:=⟨_,List.getElem?_eq_getElem hil⟩
  have hpp:=hp p (List.mem_of_getElem? hx)
  have hmk:=XsS p hpp
  have tmk:∀ c ∈ [XlT [(p:Int)]],Xi c:=TreeL.cons (XfM _) TreeL.nil
  have hgm:((q.map fun p=>((p:Nat):Int)).map I)[i]?=some (I p):=by simp [hx]
  have hcx:Xai 1 (((q.map fun p=>((p:Nat):Int)).map I).drop (i * 1))=some [I p]:=by
    rw [Nat.mul_one];exact Xnc hgm
  have hsl:Xd7 1 (.tr ((q.map fun p=>((p:Nat):Int)).map I) q.length 1) i (i+1)=some (.tr [I p] 1 1):=by
    show some (PV.tr ((((q.map fun p=>((p:Nat):Int)).map I).drop (i * 1)).take ((i+1 - i) * 1)) (i+1 - i) 1)=_
    rw [show i+1 - i=1 from by omega,Nat.mul_one,Nat.mul_one,Xak hgm]
    rfl
  repeat(first|refine Zd7 ?_|refine Zv ?_)
  refine Zh ?_
  repeat(first|refine Zd7 ?_|refine Xj rfl rfl (by decide) (Xlf (kl:=.i64) (kh:=.i64) (l:=i) (h:=i+1) rfl rfl rfl rfl rfl (by omega) (by exact hsl)) ?_|(refine Xr rfl rfl rfl rfl rfl rfl (by decide) hmk tmk ?_;rintro _ rfl)|refine Xj rfl rfl (by decide) (Xf (cells:=(q.map fun p=>((p:Nat):Int)).map I) rfl rfl rfl (by omega) (by exact hcx)) ?_|refine ZC ?_|refine ZS ?_|refine Z5 ?_|(refine ZA ?_;intro G hG)|(refine ZD ?_;intro id G hG))
  have hG:Has G [(id,⟨[I 1,I 0,I 0,S (txt (Xat p)),Xaw,I 0,I 0,Xaw,Xaw,Xaw,Xaw],46,true⟩),(o,⟨((q.take i).map itN).flatMap Xl,46,true⟩)]:=hG
  clear hmk tmk hcx hsl
  refine Xcw (S:=List PV) (fun _=>[(3,.sl o 0 i 11),(4,.tr ((q.map fun p=>((p:Nat):Int)).map I) q.length 1),(6,I i),(9,.ptr id 0)])
    (fun cs G=>WkL cs (Xl (itN p))∧Has G [(id,⟨cs,46,true⟩),(o,⟨((q.take i).map itN).flatMap Xl,46,true⟩)]) ?_ ?_
  · unfold itN
    by_cases c1:p=10
    · subst c1
      rw [if_pos rfl]
      repeat(first|refine Zd1 ?_|refine ZJ ?_|refine Z5 ?_|(refine ZA ?_;intro G hG)|refine ZN ?_|refine ZU ?_)
      exact ⟨_,.cons rfl (.cons rfl (.cons rfl (.cons rfl (.nil _)))),XiO 2 0 ByteArray.empty,hG⟩
    rw [if_neg c1]
    by_cases c2:p=11
    · subst c2
      rw [if_pos rfl]
      repeat(first|refine Zd1 ?_|refine ZJ ?_|refine Z5 ?_|(refine ZA ?_;intro G hG)|refine ZN ?_|refine ZU ?_)
      exact ⟨_,.cons rfl (.cons rfl (.cons rfl (.cons rfl (.nil _)))),XiO 4 1 ByteArray.empty,hG⟩
    rw [if_neg c2]
    by_cases c3:p=12
    · subst c3
      rw [if_pos rfl]
      repeat(first|refine Zd1 ?_|refine ZJ ?_|refine Z5 ?_|(refine ZA ?_;intro G hG)|refine ZN ?_|refine ZU ?_)
      exact ⟨_,.cons rfl (.cons rfl (.cons rfl (.cons rfl (.nil _)))),XiO 4 2 ByteArray.empty,hG⟩
    rw [if_neg c3]
    by_cases c4:p=9
    · subst c4
      rw [if_pos rfl]
      repeat(first|refine Zd1 ?_|refine ZJ ?_|refine Z5 ?_|(refine ZA ?_;intro G hG)|refine ZN ?_|refine ZU ?_)
      exact ⟨_,.cons rfl (.cons rfl (.cons rfl (.cons rfl (.nil _)))),XiO 4 3 ByteArray.empty,hG⟩
    rw [if_neg c4]
    repeat(first|refine Zd1 ?_|refine ZN ?_|refine ZU ?_)
    exact ⟨_,.cons rfl (.cons rfl (.cons rfl (.cons rfl (.nil _)))),XiO 1 0 (txt (Xat p)),hG⟩
  clear hG
  rintro cs G ⟨hw,hG⟩
  refine Xgz 0 hG rfl hw ?_
  clear hG hw
  intro G hG
  have hG:Has G [(id,⟨Xl (itN p),46,true⟩),(o,⟨((q.take i).map itN).flatMap Xl,46,true⟩)]:=hG
  have hn:(((q.take i).map itN).flatMap Xl).length=i * 11:=by
    rw [XC XU,List.length_map,List.length_take]
    congr 1;omega
  have hle:=XU (itN p)
  have hm:((q.take i).map itN).flatMap Xl++Xl (itN p)=((q.take (i+1)).map itN).flatMap Xl:=by
    rw [List.take_add_one,hx]
    simp
  generalize itN p=x at hG hle hm
  obtain ⟨k,c,d,t,h,f,r⟩:=x
  rw [XK] at hG hle hm
  repeat(first|refine Zd1 ?_|refine ZJ ?_|(refine ZdA ?_;intro lo2 G hG)|(refine ZL ?_;intro id G hG))
  refine ⟨(i+1,lo2),by dsimp only;omega,.cons rfl (.cons rfl (.cons rfl (.nil _))),by dsimp only;omega,?_⟩
  dsimp only
  rw [← hm]
  exact hG.tail.tail
end Go.Proofs.YtlcphjcpoinolaaGreat
