/- Part of the proof: the walk over the program and its laws: Sm. -/
import Derived.Test.YtlcphjcpoinolaaGreatP0
import Derived.Test.YtlcphjcpoinolaaGreatP31
set_option linter.unusedVariables false
namespace Go.Proofs.YtlcphjcpoinolaaGreat
open Go.RowKit Go.Th
set_option maxRecDepth 20000
section
variable {P:Program} {o:Oper} {E:Env} {H:Xi}
theorem XsF {t ty:TypeId} {x y:Operand} {a b:Int} (ho:o.op=.binOp .sub t x y ty) (hx:E.ev x=some (.v (.int .i64 a))) (hy:E.ev y=some (.v (.int .i64 b))) :
    OpV P o E H (.v (.int .i64 (IntKind.i64.wrap (a - b)))):=X7 ho hx hy rfl rfl (fun w=>by
  simp [eqGuard_at_int,binOp_sub,Op.intArith]) rfl
theorem XsI {t ty:TypeId} {x y:Operand} {a b:Int} (ho:o.op=.binOp .quo t x y ty) (hx:E.ev x=some (.v (.int .i64 a))) (hy:E.ev y=some (.v (.int .i64 b))) (hb:b≠0) :
    OpV P o E H (.v (.int .i64 (IntKind.i64.wrap (a.tdiv b)))):=X7 ho hx hy rfl rfl (fun w=>by
  simp [eqGuard_at_int,binOp_quo,Op.intDiv,hb]) rfl
theorem Xm3 {t:TypeId} [hu:HasU P t .string] {x:Operand} {s:ByteArray} (ho:o.op=.call { callee:=.builtin .len,args:=#[x],argTypes:=#[t] }) (hx:E.ev x=some (.v (.string s))) :
    OpV P o E H (.v (.int .i64 (s.size:Int))):=fun m w ρ _ hρ=>by
  have h:=XJ (hρ x _ hx)
  refine ⟨.int .i64 s.size,?_,.v _ rfl⟩
  simp [execOp,ho,resolve,invoke,builtin,h,Builtin.len_,run_underlying hu.u,goInt]
end
theorem Xcq {H:Xi} {id:Nat} {B:Blk} (h:H[id]?=some (some B)):Has H [(id,B)] :=
  (Has.nil H).cons (Has.nil []) h (Nat.zero_le _)
def XjD (n:Int):Blk:=⟨[I n],3,true⟩
def Ans (id:Nat) (n:Int) (cost:Nat) (p:PV) (H:Xi):Prop:=∃ b n',p=B b∧H[id]?=some (some (XjD n'))∧(b=true→0≤n'∧n'=n - cost)
abbrev SmI (l:List Item):Prop:=∀ (d n:Int) (id:Nat) (H:Xi),0≤d→d≤12→0≤n→n≤300→H[id]?=some (some (XjD n))→AC Tryz.prog 44 [Xh l,I d,.ptr id 0] H (Ans id n (Xw l))
abbrev SmR (l:List Row):Prop:=∀ (d n:Int) (id:Nat) (H:Xi),0≤d→d≤12→0≤n→n≤300→H[id]?=some (some (XjD n))→AC Tryz.prog 103 [XD l,I d,.ptr id 0] H (Ans id n (Xas l))
set_option maxHeartbeats 16000000 in
theorem Xyg (l:List Item) (hI:∀ x ∈ l,∀ f r k c i t h,x=.mk k c i t h f r→SmI f∧SmR r) (hbn:Bnd (Xh l)):SmI l:=by
  intro d n0 id H hd0 hd1 hn0 hn1 hH
  have hl:=(Xej hbn).1
  refine Xv Tryz.func44 rfl rfl rfl ?_
  have hG:=Xcq hH
  repeat(first|refine Zes ?_)
  refine Xg (S:=Nat × Int) (fun s=>[(0,Xh l),(1,I d),(2,.ptr id 0),(7,I s.1)]) (fun s G=>s.1≤l.length∧(0≤s.2∧s.2=n0 - Xw (l.take s.1))∧G[id]?=some (some (XjD s.2))) (fun s=>l.length - s.1) (0,n0)
    (.cons rfl (.cons rfl (.cons rfl (.cons rfl (.nil _))))) ⟨Nat.zero_le _,⟨hn0,by simp [Xw]⟩,hH⟩ ?_
  rintro ⟨i,n⟩ G ⟨hi,⟨hnn,hne⟩,hB⟩
  dsimp only at hi hnn hne hB ⊢
  have hG:=Xcq hB
  by_cases hil:i < l.length
  · obtain ⟨x,hx⟩:∃ x,l[i]?=some x:=⟨_,List.getElem?_eq_getElem hil⟩
    have hIx:=hI x (List.mem_of_getElem? hx)
    have hct:=Xhf l i x hx
    have hbh:=Xst hbn (List.mem_of_getElem? hx)
    obtain ⟨k,c,j,t,h,f,r⟩:=x
    obtain ⟨hf,hr⟩:=hIx f r k c j t h rfl
    have hbh:=hbh k c j t h f r rfl
    have hle1:=XiT (n:=n) (by omega) (by omega) hbh
    rw [XbG] at hct
    clear hIx hI
    repeat(first|refine Zes ?_)
    have hG1:=hG.set (k:=0) rfl (XjD (Xfg n h))
    refine XhS [G.set id (some (XjD (Xfg n h)))] (G.set id (some (XjD (Xfg n h)))) mixed (by decide +kernel) (N:=1) (by decide +kernel) rfl ?_
    repeat(first|refine Zco ?_|refine Zcp ?_|refine Y_v rfl rfl rfl (by decide) (fun _=>Xc (cells:=l.flatMap Xo) rfl rfl rfl (by omega) (by exact XiX hx)) ?_|refine Zbo ?_|refine Zdn ?_|refine Zex ?_)
    have hG:=hG1
    clear hG1 hB
    generalize Xfg n h=n1 at hG hle1 ⊢
    refine XkZ [(0,Xh l),(1,I d),(2,.ptr id 0),(7,I i)] (.cons rfl (.cons rfl (.cons rfl (.cons rfl (.nil _))))) ?_
    generalize G.set id (some (XjD n1))=G at hG ⊢
    by_cases c1:n1 < 0
    · repeat(first|refine Zes ?_|refine Zcr ?_|refine ZL ?_)
      exact Zcs
    by_cases c2:d=0
    · repeat(first|refine Zes ?_|refine ZL ?_)
      exact Zcs
    by_cases c3:(400:Int) < t.size
    · repeat(first|refine Zes ?_|refine ZbO ?_|refine Xn rfl rfl (by decide) (Xm3 rfl rfl) ?_|refine ZL ?_)
      exact Zcs
    repeat(first|refine Zes ?_|refine ZbO ?_|refine Xn rfl rfl (by decide) (Xm3 rfl rfl) ?_|refine Zbp ?_|refine ZL ?_)
    refine X5 rfl rfl rfl rfl rfl rfl (by decide) (hf (d - 1) n1 id _ (by omega) (by omega) (by omega) (by omega) (hG.get 0 _ _ rfl)) ?_
    rintro _ G2 ⟨b,n2,rfl,hB2,hn2⟩
    have hG:=Xcq hB2
    cases b with
    | false =>
      repeat(first|refine Zes ?_)
      exact XC rfl rfl ⟨false,n2,rfl,hB2,fun h=>by cases h⟩
    | true =>
      obtain ⟨hn2,he2⟩:=hn2 rfl
      repeat(first|refine ZbO ?_|refine Zes ?_)
      refine X5 rfl rfl rfl rfl rfl rfl (by decide) (hr d n2 id _ (by omega) (by omega) (by omega) (by omega) hB2) ?_
      rintro _ G3 ⟨b,n3,rfl,hB3,hn3⟩
      have hG:=Xcq hB3
      cases b with
      | false =>
        repeat(first|refine Zes ?_)
        exact XC rfl rfl ⟨false,n3,rfl,hB3,fun h=>by cases h⟩
      | true =>
        obtain ⟨hn3,he3⟩:=hn3 rfl
        repeat(first|refine Zes ?_)
        exact ⟨(i+1,n3),by simp only;omega,.cons rfl (.cons rfl (.cons rfl (.cons rfl (.nil _)))),by simp only;omega,⟨hn3,by simp only;rw [hct];omega⟩,hB3⟩
  · have e:i=l.length:=by omega
    rw [e,List.take_length] at hne
    repeat(first|refine Zes ?_)
    exact XC rfl rfl ⟨true,n,rfl,hB,fun _=>⟨hnn,hne⟩⟩
end Go.Proofs.YtlcphjcpoinolaaGreat
