/- Part of the proof: the walk over the program and its laws: Eh Co Ut Qj Bu Ls. -/
import Derived.Test.YtlcphjcpoinolaaGreatP0
import Derived.Test.YtlcphjcpoinolaaGreatP4
import Derived.Test.YtlcphjcpoinolaaGreatP2
import Derived.Test.YtlcphjcpoinolaaGreatP12
import Derived.Test.YtlcphjcpoinolaaGreatP30
import Derived.Test.YtlcphjcpoinolaaGreatP13
set_option linter.unusedVariables false
namespace Go.Proofs.YtlcphjcpoinolaaGreat
open Go.RowKit Go.Th
set_option maxRecDepth 20000
def XaQ:PV:=.v (.slice none 0 0)
def Xq5:Blk:=⟨[XaQ,XaQ,XaQ,XaQ],51,true⟩
set_option maxHeartbeats 16000000 in
theorem Xqa (x y:Doc):Iso Tryz.prog 22 [.agg (X8 x),.agg (X8 y)] (fun p=>p=B (eqv x y)):=by
  have hG:=Xd
  refine Xb Tryz.func22 rfl rfl rfl ?_
  have h1:=Xez x.fin y.fin
  have t1:∀ c ∈ [PV.agg (XL x.fin),PV.agg (XL y.fin)],Xk c:=TreeL.cons (Xk.agg (X6 _)) (TreeL.cons (Xk.agg (X6 _)) TreeL.nil)
  have h2:=XlK x.sets.lists y.sets.lists (fun _ a b _ _=>Xp9 a b)
  repeat(first|refine Zes ?_|(refine ZH ?_;intro id G hG))
  refine Xtu 4 5 Xq5 Xq5 hG mixed rfl (by decide +kernel) (N:=2) (by decide +kernel) fun g1 g2 G hG=>?_
  have hG1:=hG.set (k:=1) rfl ⟨XaI x.sets,51,true⟩
  have hG2:=hG1.set (k:=0) rfl ⟨XaI y.sets,51,true⟩
  refine ⟨[G.set g1 (some ⟨XaI x.sets,51,true⟩),(G.set g1 (some ⟨XaI x.sets,51,true⟩)).set g2 (some ⟨XaI y.sets,51,true⟩)],_,rfl,?_⟩
  refine ZaB ?_
  refine Xw0 0 rfl (by decide +kernel) (by decide +kernel) rfl rfl rfl rfl (by decide) (Xj rfl rfl (hG.get 3 _ _ rfl) rfl) ?_
  refine ZaB ?_
  refine F_r2 0 rfl (by decide +kernel) (by decide +kernel) rfl rfl rfl rfl rfl (by decide) (Xj rfl rfl (hG.get 2 _ _ rfl) rfl) (Xj rfl rfl (hG1.get 2 _ _ rfl) rfl) ?_
  refine F_f1 0 rfl rfl (by decide +kernel) (by decide +kernel) rfl rfl rfl (by decide) (Xfp rfl rfl) (hG.get 1 _ _ rfl) ?_
  refine Zdm ?_
  refine F_s 0 rfl (by decide +kernel) rfl rfl rfl rfl (XH rfl rfl rfl (hG.get 1 _ _ rfl) rfl rfl rfl rfl rfl) rfl ?_
  refine F_s 1 rfl (by decide +kernel) rfl rfl rfl rfl (XH rfl rfl rfl (hG1.get 0 _ _ rfl) rfl rfl rfl rfl rfl) rfl ?_
  refine XAQ ?_
  have hG:=hG2
  clear hG1 hG2
  repeat(first|refine Zev ?_|(refine Xr rfl rfl rfl rfl rfl rfl (by decide) (Xha _ _) (TreeL.cons (XM _) (TreeL.cons (XM _) TreeL.nil)) ?_;rintro _ rfl)|refine Za3 ?_|refine ZbN ?_)
  generalize hb0:eqv x.flow y.flow=b0
  repeat(first|refine XcF (fun hb=>by subst hb;exact Iso.K rfl rfl rfl rfl h1 t1) rfl rfl rfl rfl rfl (by decide) ?_|refine XcF (fun hb=>by subst hb;exact Iso.K rfl rfl rfl rfl (Xp7 _ _) (TreeL.cons (Xba _) (TreeL.cons (Xba _) TreeL.nil))) rfl rfl rfl rfl rfl (by decide) ?_|refine XcF (fun hb=>by subst hb;exact Iso.K rfl rfl rfl rfl (Xkt _ _) (TreeL.cons (XS _) (TreeL.cons (XS _) TreeL.nil))) rfl rfl rfl rfl rfl (by decide) ?_|refine XcF (fun hb=>by subst hb;exact Iso.K rfl rfl rfl rfl h2 (TreeL.cons (XaN _) (TreeL.cons (XaN _) (TreeL.cons (Xk.fn Xs) TreeL.nil)))) rfl rfl rfl rfl rfl (by decide) ?_|refine XcF (fun hb=>by subst hb;exact Iso.K rfl rfl rfl rfl (Xjf _ _) (TreeL.cons (XaO _) (TreeL.cons (XaO _) TreeL.nil))) rfl rfl rfl rfl rfl (by decide) ?_|refine XcF (fun hb=>by subst hb;exact Iso.K rfl rfl rfl rfl (Xp5 _ _) (TreeL.cons (Xb9 _) (TreeL.cons (Xb9 _) TreeL.nil))) rfl rfl rfl rfl rfl (by decide) ?_|refine Zew ?_|refine XdK (fun hb=>by subst hb;exact Xay rfl rfl) rfl rfl rfl rfl rfl (by decide) ?_|refine XdK (fun hb=>by subst hb;exact Xj rfl rfl (hG.get 2 _ _ rfl) rfl) rfl rfl rfl rfl rfl (by decide) ?_|refine XdK (fun hb=>by subst hb;exact Xj rfl rfl (hG.get 3 _ _ rfl) rfl) rfl rfl rfl rfl rfl (by decide) ?_|(refine Za2 ?_;intro bv hbv))
  repeat(first|refine Zev ?_)
  subst_vars
  refine ZaK ?_
  rw [Xwz];rfl
end Go.Proofs.YtlcphjcpoinolaaGreat
namespace Go.Proofs.YtlcphjcpoinolaaGreat
open Go.RowKit Go.Th
def Xhg (h:Head):Nat:=h.props.length / 8+h.dels.length / 8+h.lyrs.length / 8
mutual
def XbG:Item→Nat
  | .mk _ _ _ t h f r=>1+Xhg h+(Xw f+Xas r)+t.size / 401
def Xw:List Item→Nat
  | []=>0
  | x::l=>XbG x+Xw l
def Xeg:Row→Nat
  | .mk h c=>1+Xhg h+XaM c
def Xas:List Row→Nat
  | []=>0
  | x::l=>Xeg x+Xas l
def XdR:Cell→Nat
  | .mk _ h f=>1+Xhg h+Xw f
def XaM:List Cell→Nat
  | []=>0
  | x::l=>XdR x+XaM l
end
theorem Xhf:∀ (l:List Item) (i:Nat) (x:Item),l[i]?=some x→Xw (l.take (i+1))=Xw (l.take i)+XbG x
  | [],i,x,h=>by simp at h
  | y::l,0,x,h=>by simp at h;subst h;simp [Xw]
  | y::l,i+1,x,h=>by
    have:=Xhf l i x (by simpa using h)
    simp only [List.take_succ_cons,Xw,this];omega
theorem Xhe:∀ (l:List Row) (i:Nat) (x:Row),l[i]?=some x→Xas (l.take (i+1))=Xas (l.take i)+Xeg x
  | [],i,x,h=>by simp at h
  | y::l,0,x,h=>by simp at h;subst h;simp [Xas]
  | y::l,i+1,x,h=>by
    have:=Xhe l i x (by simpa using h)
    simp only [List.take_succ_cons,Xas,this];omega
theorem Xhh:∀ (l:List Cell) (i:Nat) (x:Cell),l[i]?=some x→XaM (l.take (i+1))=XaM (l.take i)+XdR x
  | [],i,x,h=>by simp at h
  | y::l,0,x,h=>by simp at h;subst h;simp [XaM]
  | y::l,i+1,x,h=>by
    have:=Xhh l i x (by simpa using h)
    simp only [List.take_succ_cons,XaM,this];omega
theorem Xce:∀ {l:List Item} {x:Item},x ∈ l→XbG x≤Xw l
  | y::l,x,h=>by
    rcases List.mem_cons.1 h with rfl | h
    · simp only [Xw];omega
    · have:=Xce h;simp only [Xw];omega
theorem Xcd:∀ {l:List Row} {x:Row},x ∈ l→Xeg x≤Xas l
  | y::l,x,h=>by
    rcases List.mem_cons.1 h with rfl | h
    · simp only [Xas];omega
    · have:=Xcd h;simp only [Xas];omega
theorem Xcf:∀ {l:List Cell} {x:Cell},x ∈ l→XdR x≤XaM l
  | y::l,x,h=>by
    rcases List.mem_cons.1 h with rfl | h
    · simp only [XaM];omega
    · have:=Xcf h;simp only [XaM];omega
theorem XaK:∀ l:List Item,l.length≤Xw l
  | []=>Nat.zero_le _
  | .mk _ _ _ _ _ _ _::l=>by have:=XaK l;simp only [Xw,XbG,List.length_cons];omega
theorem XbM:∀ l:List Row,l.length≤Xas l
  | []=>Nat.zero_le _
  | .mk _ _::l=>by have:=XbM l;simp only [Xas,Xeg,List.length_cons];omega
theorem XbN:∀ l:List Cell,l.length≤XaM l
  | []=>Nat.zero_le _
  | .mk _ _ _::l=>by have:=XbN l;simp only [XaM,XdR,List.length_cons];omega
theorem Xsj {h:Head} (hb:h.props.length≤9223372036854775807∧h.dels.length≤9223372036854775807∧h.lyrs.length≤9223372036854775807):Xhg h≤3458764513820540925:=by
  unfold Xhg;omega
def XAS (h:Head):Prop:=h.props.length≤9223372036854775807∧h.dels.length≤9223372036854775807∧h.lyrs.length≤9223372036854775807
theorem Xej {α:Type} {enc:α→List PV} {sz:Nat} {l:List α} (h:Bnd (XaE enc sz l)):l.length≤9223372036854775807∧∀ x ∈ l,∀ c ∈ enc x,Bnd c:=by
  cases h with
  | tr _ h1 k=>exact ⟨h1,fun x hx c hc=>k c (List.mem_flatMap.2 ⟨x,hx,hc⟩)⟩
theorem Xjs {h:Head} {l:List PV} (k:∀ c ∈ l,Bnd c) (h1:Xf h.props ∈ l) (h2:Xm h.dels ∈ l) (h3:Xl h.lyrs ∈ l):XAS h:=⟨(Xej (k _ h1)).1,(Xej (k _ h2)).1,(Xej (k _ h3)).1⟩
theorem Xst {l:List Item} (h:Bnd (Xh l)) {x:Item} (hx:x ∈ l):∀ k c i t hd f r,x=.mk k c i t hd f r→XAS hd:=fun k c i t hd f r e=>by
  subst e
  have:=(Xej h).2 _ hx
  rw [XG] at this
  exact Xjs this (by simp) (by simp) (by simp)
theorem Xss {l:List Row} (h:Bnd (XD l)) {x:Row} (hx:x ∈ l):∀ hd cs,x=.mk hd cs→XAS hd∧Bnd (Xak cs):=fun hd cs e=>by
  subst e
  have:=(Xej h).2 _ hx
  rw [X0] at this
  exact ⟨Xjs this (by simp) (by simp) (by simp),this _ (by simp)⟩
theorem Xqn {l:List Cell} (h:Bnd (Xak l)) {x:Cell} (hx:x ∈ l):∀ i hd f,x=.mk i hd f→XAS hd:=fun i hd f e=>by
  subst e
  have:=(Xej h).2 _ hx
  rw [XW] at this
  exact Xjs this (by simp) (by simp) (by simp)
def Xfg (n:Int) (h:Head):Int:=IntKind.i64.wrap (IntKind.i64.wrap (IntKind.i64.wrap (IntKind.i64.wrap (n - 1) - IntKind.i64.wrap ((h.props.length:Int).tdiv 8)) - IntKind.i64.wrap ((h.dels.length:Int).tdiv 8)) - IntKind.i64.wrap ((h.lyrs.length:Int).tdiv 8))
theorem XeP {a:Int} (h1:-9223372036854775808≤a) (h2:a≤9223372036854775807):IntKind.i64.wrap a=a:=by rw [IntKind.wrap_i64];omega
theorem XiT {n:Int} {h:Head} (h1:-3458764513820540929≤n) (h2:n≤1000) (hb:XAS h):Xfg n h=n - 1 - (Xhg h:Int):=by
  obtain ⟨a,b,c⟩:=hb
  unfold Xfg Xhg
  have e:∀ k:Nat,(k:Int).tdiv 8=((k / 8:Nat):Int):=fun k=>by
    rw [Int.tdiv_eq_ediv_of_nonneg (by omega)];omega
  rw [e,e,e]
  have hx:h.props.length / 8≤1152921504606846975:=by omega
  have hy:h.dels.length / 8≤1152921504606846975:=by omega
  have hz:h.lyrs.length / 8≤1152921504606846975:=by omega
  generalize h.props.length / 8=x at hx ⊢
  generalize h.dels.length / 8=y at hy ⊢
  generalize h.lyrs.length / 8=z at hz ⊢
  rw [XeP (a:=(x:Int)) (by omega) (by omega),XeP (a:=(y:Int)) (by omega) (by omega),XeP (a:=(z:Int)) (by omega) (by omega),XeP (a:=n - 1) (by omega) (by omega),
    XeP (a:=n - 1 - (x:Int)) (by omega) (by omega),XeP (a:=n - 1 - (x:Int) - (y:Int)) (by omega) (by omega),XeP (a:=n - 1 - (x:Int) - (y:Int) - (z:Int)) (by omega) (by omega)]
  omega
end Go.Proofs.YtlcphjcpoinolaaGreat
namespace Go.Th
open Go.RowKit
theorem Has.behind {H:Xi} {A L:List (Nat × Blk)} (h:Has H (A++L)):Has H L:=by
  obtain ⟨h1,h2⟩:=Xc6.1 h
  exact Xc6.2 ⟨fun x hx=>h1 x (List.mem_append_right A hx),(List.pairwise_append.1 h2).2.1⟩
theorem Has.swapL {H:Xi} {A B K:List (Nat × Blk)} (h:Has H (A++(B++K))):Has H (B++(A++K)):=h.perm (List.perm_append_comm_assoc A B K)
theorem Has.midcut {H:Xi} {A B K:List (Nat × Blk)} (h:Has H (A++(B++K))):Has H (A++K):=h.swapL.behind
end Go.Th
namespace Go.Proofs.YtlcphjcpoinolaaGreat
open Go.RowKit Go.Th
theorem XgU {h:Head} (hc:Xhg h≤300):HeadOk h:=by
  unfold Xhg at hc
  exact ⟨by omega,by omega,by omega⟩
mutual
theorem Xpv:∀ (x:Item),XbG x≤300→XqH x
  | .mk k code i t h f r,hc=>by
    rw [XbG] at hc
    have h1:=XaK f
    have h2:=XbM r
    exact XuT k code i t h f r (by omega) (XgU (by omega)) (XiW f (by omega) (Xew f (by omega))) (Xum r (by omega) (XjV r (by omega)))
theorem Xew:∀ (l:List Item),Xw l≤300→∀ x ∈ l,XqH x
  | [],_=>fun x h=>by simp at h
  | x::l,hc=>by
    rw [Xw] at hc
    intro y hy
    rcases List.mem_cons.1 hy with e | hy
    · rw [e];exact Xpv x (by omega)
    · exact Xew l (by omega) y hy
theorem XjV:∀ (l:List Row),Xas l≤300→∀ x ∈ l,∀ h cs,x=.mk h cs→HeadOk h∧cs.length≤1000000∧∀ y ∈ cs,∀ i h f,y=.mk i h f→HeadOk h∧Xiz f
  | [],_=>fun x h=>by simp at h
  | .mk h0 cs0::l,hc=>by
    rw [Xas,Xeg] at hc
    have h1:=XbN cs0
    have h2:=Xis cs0 (by omega)
    intro y hy h cs e
    rcases List.mem_cons.1 hy with e1 | hy
    · rw [e1] at e
      injection e with e2 e3
      subst e2;subst e3
      exact ⟨XgU (by omega),by omega,h2⟩
    · exact XjV l (by omega) y hy h cs e
theorem Xis:∀ (l:List Cell),XaM l≤300→∀ y ∈ l,∀ i h f,y=.mk i h f→HeadOk h∧Xiz f
  | [],_=>fun x h=>by simp at h
  | .mk i0 h0 f0::l,hc=>by
    rw [XaM,XdR] at hc
    have h1:=XaK f0
    have h2:=Xew f0 (by omega)
    intro y hy i h f e
    rcases List.mem_cons.1 hy with e1 | hy
    · rw [e1] at e
      injection e with e2 e3 e4
      subst e3;subst e4
      exact ⟨XgU (by omega),XiW f0 (by omega) h2⟩
    · exact Xis l (by omega) y hy i h f e
end
theorem XnN (l:List Item) (hc:Xw l≤300):Xiz l:=XiW l (by have:=XaK l;omega) (Xew l hc)
end Go.Proofs.YtlcphjcpoinolaaGreat
namespace Go.Proofs.YtlcphjcpoinolaaGreat
open Go.RowKit Go.Th
set_option maxRecDepth 20000
instance:HasU Tryz.prog 259 .unsafePointer:=HasU.mk Tryz.underlying259
def XrG:PV:=.v (.pointer none)
theorem XBt (v:Value) (w:World):(callFunc 189 #[v]).run Tryz.prog w=.ok (.value v) w:=by
  rw [run_callFunc_extern Tryz.func189 (by kernel_rfl) (by kernel_rfl) (by kernel_rfl) (e:=Extern.AbiNoEscape.same) (by kernel_rfl)]
  rfl
theorem XBy:Nat.ble (Tryz.prog.cellsOf 306) 7=true:=by decide +kernel
theorem XBx:Nat.ble (2+1) (Tryz.prog.cellsOf 306)=true:=by decide +kernel
theorem XBw:rowAt Tryz.prog (sameLayout Tryz.prog Tryz.prog.depth · 81) Tryz.prog.depth 306 1 2 1=true:=by decide +kernel
def scB (s:ByteArray) (at_:Int) (ad bf pa:PV) (pl e:Int):Blk:=⟨[S s,I at_,ad,bf,pa,I pl,I e],306,true⟩
set_option maxHeartbeats 8000000 in
theorem XkB (c:Nat) (s:ByteArray) (a pl e:Int) (ad bf pa:PV) (had:ad=XrG∨ad=.ptr c 2) (G:Xi) (K:List (Nat × Blk)) (hG:Has G ((c,scB s a ad bf pa pl e)::K)) :
    AC Tryz.prog 148 [.ptr c 2] G (fun p G'=>p=.tup []∧Has G' ((c,scB s a (.ptr c 2) bf pa pl e)::K)):=by
  refine Xv Tryz.func148 rfl rfl rfl ?_
  unfold scB at hG
  rcases had with rfl | rfl
  · repeat(first|refine Zes ?_|refine ZJ ?_|refine Xn rfl rfl (by decide) (XfT rfl rfl rfl) ?_|refine Xn rfl rfl (by decide) (XkP rfl rfl (hG.get 0 _ _ rfl) rfl rfl) ?_|refine Xn rfl rfl (by decide) (XhN rfl rfl (hG.get 0 _ _ rfl) XBy XBx XBw) ?_|refine Xn rfl rfl (by decide) (XwW XBt rfl rfl rfl rfl) ?_|refine ZL ?_|(refine Zz ?_;intro G hG))
    exact Xbr rfl (.inl rfl) ⟨rfl,hG⟩
  · repeat(first|refine Zes ?_|refine Xn rfl rfl (by decide) (XfT rfl rfl rfl) ?_|refine Xn rfl rfl (by decide) (XqB rfl rfl rfl (hG.get 0 _ _ rfl)) ?_|refine ZL ?_)
    exact Xbr rfl (.inl rfl) ⟨rfl,hG⟩
theorem Xod (l:List UInt8) (b:UInt8):XdH l++[.v (.int .u8 b.toNat)]=XdH (l++[b]):=by simp [XdH]
set_option maxHeartbeats 8000000 in
theorem XfW (c lo:Nat) (s:ByteArray) (a pl e:Int) (ad pa:PV) (lit:List UInt8) (b:UInt8) (hl:lit.length≤1000000) (had:ad=XrG∨ad=.ptr c 2) (G:Xi) (K:List (Nat × Blk)) (hG:Has G ((c,scB s a ad (.sl lo 0 lit.length 1) pa pl e)::(lo,⟨XdH lit,5,true⟩)::K)) :
    AC Tryz.prog 90 [.ptr c 2,.v (.int .u8 b.toNat)] G (fun p G'=>p=.v .nilIface∧∃ lo',Has G' ((c,scB s a (.ptr c 2) (.sl lo' 0 (lit++[b]).length 1) pa pl e)::(lo',⟨XdH (lit++[b]),5,true⟩)::K)):=by
  have hn:(XdH lit).length=lit.length * 1:=by rw [Xei,Nat.mul_one]
  have hm:=Xod lit b
  refine Xv Tryz.func90 rfl rfl rfl ?_
  repeat(first|refine Zez ?_)
  refine X5 rfl rfl rfl rfl rfl rfl (by decide) (XkB c s a pl e ad _ pa had _ _ hG) ?_
  clear hG
  rintro _ G ⟨rfl,hG⟩
  unfold scB at hG
  repeat(first|refine Zes ?_|(refine Xau 2 hG rfl rfl (by decide) rfl rfl rfl rfl rfl rfl hn rfl (hG.cellsOf (k:=0) rfl rfl) rfl (by omega) (by omega) ?_;intro lo2 G hG)|refine ZL ?_|(refine ZaP ?_;intro G hG)|(refine ZO ?_;intro id G hG))
  refine XC rfl rfl ⟨rfl,lo2,?_⟩
  rw [List.length_append,← hm]
  exact hG.tail
theorem Xs3 (c:Nat) (s:ByteArray) (a pl e:Int) (ad pa:PV) (lo n:Nat) (G:Xi) (K:List (Nat × Blk)) (hG:Has G ((c,scB s a ad (.sl lo 0 n 1) pa pl e)::K)) :
    AC Tryz.prog 244 [.ptr c 2] G (fun p G'=>p=I n∧G'=G):=by
  refine Xv Tryz.func244 rfl rfl rfl ?_
  unfold scB at hG
  repeat(first|refine Zes ?_|refine ZL ?_)
  exact Zai
set_option maxHeartbeats 8000000 in
theorem XoE (c lo:Nat) (s:ByteArray) (a pl e:Int) (ad pa:PV) (lit:List UInt8) (h0:lit≠[]) (hl:lit.length≤1000000) (G:Xi) (K:List (Nat × Blk)) (hG:Has G ((c,scB s a ad (.sl lo 0 lit.length 1) pa pl e)::(lo,⟨XdH lit,5,true⟩)::K)) :
    AC Tryz.prog 37 [.ptr c 2] G (fun p G'=>p=S ⟨lit.toArray⟩∧G'=G.set lo none):=by
  have h1:1≤lit.length:=by
    cases lit with
    | nil=>exact absurd rfl h0
    | cons x l=>simp
  refine Xv Tryz.func37 rfl rfl rfl ?_
  unfold scB at hG
  repeat(first|refine Zes ?_)
  refine XhT [10] [G.set lo none] (G.set lo none) mixed (by decide +kernel) (N:=1) (by decide +kernel) rfl ?_
  repeat(first|refine ZbC ?_|refine F_v rfl rfl rfl rfl (by decide) (fun _=>Xjy rfl rfl h1) ?_|refine F_w 0 rfl (by decide +kernel) rfl rfl rfl rfl (by decide) (Xgc (by decide +kernel) rfl rfl rfl (hG.get 1 _ _ rfl) h0 (by omega)) rfl ?_|refine Zey ?_|refine F_v rfl rfl rfl rfl (by decide) (fun _=>Xen rfl rfl rfl) ?_)
  repeat(first|refine Zf ?_)
  exact Zai
theorem Xrj (c:Nat) (s:ByteArray) (a pl e:Int) (ad bf pa:PV) (G:Xi) (K:List (Nat × Blk)) (hG:Has G ((c,scB s a ad bf pa pl e)::K)) :
    AC Tryz.prog 245 [.ptr c 2] G (fun p G'=>p=.tup []∧Has G' ((c,scB s a XrG XaQ pa pl e)::K)):=by
  refine Xv Tryz.func245 rfl rfl rfl ?_
  unfold scB at hG
  repeat(first|refine Zes ?_|refine ZJ ?_|refine ZL ?_|(refine Zz ?_;intro G hG))
  exact Xbr rfl (.inl rfl) ⟨rfl,hG⟩
end Go.Proofs.YtlcphjcpoinolaaGreat
namespace Go.Proofs.YtlcphjcpoinolaaGreat
open Go.RowKit Go.Th
set_option maxRecDepth 20000
section
variable {P:Program} {n:Nat} {fx:List Nat × List Nat} {gid:Nat→Nat} {l:List Oper} {acc:List PV} {Hs:Nat→Xi} {i:Nat} {o:Oper} {os:List Oper} {p:PV} {E:Env} {d:Nat} {K:Env→Prop}
theorem F_r3 {H H2 H3:Xi} (c:Nat) (hf:fx.1.contains i=false) (h1:loF fx l i=c) (h2:hiF fx l i=c+2) (hH:Hs c=H) (hH2:Hs (c+1)=H2) (hH3:Hs (c+2)=H3) (hg:o.guard=none) (hl:(Xq o || fx.2.contains i)=false) (hd:o.dst=some d) (hn:d < n) (h:OpV P o (XK o E) H p) (h':OpV P o (XK o E) H2 p) (h'':OpV P o (XK o E) H3 p)
    (k:DYF P n fx gid l Hs (i+1) os (p::acc) ((d,p)::E) K):DYF P n fx gid l Hs i (o::os) acc E K :=
  F_r c (c+2) hf h1 h2 hg hl hd hn (fun j hj1 hj2=>by
    rcases (by omega:j=c∨j=c+1∨j=c+2) with e | e | e
    · rw [e,hH];exact h
    · rw [e,hH2];exact h'
    · rw [e,hH3];exact h'') k
end
structure Pt where
  lit:ByteArray
  lv:Int
  pl:Bool
def Xdg (p:Pt):List PV:=[S p.lit,I p.lv,B p.pl]
theorem Xfl (p:Pt):(Xdg p).length=3:=rfl
def ScH (c:Nat) (s:ByteArray) (a:Int) (lit:List UInt8) (ps:List Pt) (pl e:Int) (K:List (Nat × Blk)) (G:Xi):Prop :=
  ∃ (ad bf:PV) (po:Nat) (A:List (Nat × Blk)),(ad=XrG∨ad=.ptr c 2)∧(bf=XaQ∧lit=[]∧A=[]∨∃ lo,bf=.sl lo 0 lit.length 1∧A=[(lo,⟨XdH lit,5,true⟩)]) ∧
    Has G ((c,scB s a ad bf (.sl po 0 ps.length 3) pl e)::(po,⟨ps.flatMap Xdg,284,true⟩)::(A++K))
theorem Xe5 {n:Nat} {Q:QA} {E:Env} {H:Xi} {code:Code} {c:Nat} {s:ByteArray} {a:Int} {lit:List UInt8} {ps:List Pt} {pl e:Int} {K:List (Nat × Blk)} (hS:ScH c s a lit ps pl e K H)
    (h:∀ G ad lo po,(ad=XrG∨ad=.ptr c 2)→Has G ((c,scB s a ad (.sl lo 0 lit.length 1) (.sl po 0 ps.length 3) pl e)::(lo,⟨XdH lit,5,true⟩)::(po,⟨ps.flatMap Xdg,284,true⟩)::K)→wpA Tryz.prog n code Q E G):wpA Tryz.prog n code Q E H:=by
  obtain ⟨ad,bf,po,A,h1,h2,hG⟩:=hS
  rcases h2 with ⟨rfl,rfl,rfl⟩ | ⟨lo,rfl,rfl⟩
  · unfold scB at hG
    refine XcD 0 3 5 1 hG rfl rfl ?_
    intro lo G hG
    exact h G ad lo po h1 (hG.perm (List.Perm.swap _ _ _))
  · exact h H ad lo po h1 (hG.perm (List.Perm.cons _ (List.Perm.swap _ _ _)))
theorem ScH.of {c:Nat} {s:ByteArray} {a:Int} {lit:List UInt8} {ps:List Pt} {pl e:Int} {K:List (Nat × Blk)} {G:Xi} {ad:PV} {lo po:Nat} (h1:ad=XrG∨ad=.ptr c 2)
    (hG:Has G ((c,scB s a ad (.sl lo 0 lit.length 1) (.sl po 0 ps.length 3) pl e)::(lo,⟨XdH lit,5,true⟩)::(po,⟨ps.flatMap Xdg,284,true⟩)::K)):ScH c s a lit ps pl e K G :=
  ⟨ad,_,po,[(lo,⟨XdH lit,5,true⟩)],h1,.inr ⟨lo,rfl,rfl⟩,hG.perm (List.Perm.cons _ (List.Perm.swap _ _ _))⟩
def XbW (lit:List UInt8) (ps:List Pt):List Pt:=if lit.length=0 then ps else ps++[⟨⟨lit.toArray⟩,0,false⟩]
set_option maxHeartbeats 16000000 in
theorem Xi4 (c:Nat) (s:ByteArray) (a pl e:Int) (lit:List UInt8) (ps:List Pt) (hl:lit.length≤1000) (hp:ps.length≤1000) (G:Xi) (K:List (Nat × Blk)) (hS:ScH c s a lit ps pl e K G) :
    AC Tryz.prog 239 [.ptr c 0] G (fun p G'=>p=.tup []∧ScH c s a [] (XbW lit ps) pl e K G'):=by
  refine Xv Tryz.func239 rfl rfl rfl ?_
  refine Xe5 hS ?_
  clear hS
  intro G ad lo po had hG
  unfold XbW
  by_cases h0:lit.length=0
  · rw [if_pos h0]
    have e0:lit=[]:=List.eq_nil_of_length_eq_zero h0
    subst e0
    have hlen:=Xs3 c s a pl e ad (.sl po 0 ps.length 3) lo 0 G _ hG
    repeat(first|refine Zez ?_|refine ZL ?_)
    refine X5 rfl rfl rfl rfl rfl rfl (by decide) hlen ?_
    rintro _ _ ⟨rfl,rfl⟩
    repeat(first|refine Zes ?_)
    exact ZaN
  · rw [if_neg h0]
    have hlen:=Xs3 c s a pl e ad (.sl po 0 ps.length 3) lo lit.length G _ hG
    have hst:=XoE c lo s a pl e ad (.sl po 0 ps.length 3) lit (fun e=>h0 (by rw [e];rfl)) (by omega) G _ hG
    have hpl:=XF Xfl ps
    repeat(first|refine Zez ?_|refine ZL ?_)
    refine X5 rfl rfl rfl rfl rfl rfl (by decide) hlen ?_
    rintro _ G2 ⟨rfl,hGe⟩
    rw [hGe]
    clear hGe hlen
    repeat(first|refine Zez ?_)
    obtain ⟨H1,e1⟩:∃ X,X=G.set lo none:=⟨_,rfl⟩
    have hG1:=(hG.perm (List.Perm.swap _ _ _)).forget
    rw [← e1] at hG1 hst
    obtain ⟨H2,e2⟩:∃ X,X=H1++[some (Blk.mk [S ⟨lit.toArray⟩,I 0,B false] 284 true)]:=⟨_,rfl⟩
    have hG2:=hG1.new (Blk.mk [S ⟨lit.toArray⟩,I 0,B false] 284 true)
    rw [← e2] at hG2
    obtain ⟨H3,e3⟩:∃ X,X=H2.set po none++[some (Blk.mk (ps.flatMap Xdg++[S ⟨lit.toArray⟩,I 0,B false]) 284 true)]:=⟨_,rfl⟩
    have hG3:=hG2.grow (k:=2) rfl (Blk.mk (ps.flatMap Xdg++[S ⟨lit.toArray⟩,I 0,B false]) 284 true)
    rw [← e3] at hG3
    unfold scB at hG hG1 hG2 hG3
    obtain ⟨H4,e4⟩:∃ X,X=H3.set c (some (Blk.mk [S s,I a,ad,.sl lo 0 lit.length 1,.sl H2.length 0 (ps.length+1) 3,I pl,I e] 306 true)):=⟨_,rfl⟩
    have hG4:=hG3.set (k:=1) rfl (Blk.mk [S s,I a,ad,.sl lo 0 lit.length 1,.sl H2.length 0 (ps.length+1) 3,I pl,I e] 306 true)
    rw [← e4] at hG4
    refine XhT [8] [H1,H2,H3,H4] H4 mixed (by decide +kernel) (N:=4) (by decide +kernel) rfl ?_
    repeat(first|refine F_r3 0 rfl (by decide +kernel) (by decide +kernel) rfl rfl rfl rfl rfl rfl (by decide) (Xj rfl rfl (hG.get 0 _ _ rfl) rfl) (Xj rfl rfl (hG1.get 0 _ _ rfl) rfl) (Xj rfl rfl (hG2.get 1 _ _ rfl) rfl) ?_|refine F_c 0 rfl (by decide +kernel) rfl rfl rfl rfl (by decide) (AC.K rfl rfl rfl rfl hst) rfl ?_|refine Zcv ?_|refine F_w 1 rfl (by decide +kernel) rfl rfl rfl rfl (by decide) (XaB rfl rfl rfl rfl rfl rfl rfl rfl) e2 ?_|refine F_w 2 rfl (by decide +kernel) rfl rfl rfl rfl (by decide) (Xcg rfl rfl rfl rfl (hG2.cellsOf (k:=0) rfl rfl) rfl (Xdi (hG2.get 2 _ _ rfl) rfl rfl (by rw [hpl];exact Nat.beq_refl _)) (by omega) (by omega)) e3 ?_|refine F_s 3 rfl (by decide +kernel) rfl rfl rfl rfl (XH rfl rfl rfl (hG3.get 1 _ _ rfl) rfl rfl rfl rfl rfl) e4 ?_|refine Zey ?_)
    have hG:Has H4 ((H1.length,Blk.mk [S ⟨lit.toArray⟩,I 0,B false] 284 true)::(c,scB s a ad (.sl lo 0 lit.length 1) (.sl H2.length 0 (ps.length+1) 3) pl e)::(H2.length,Blk.mk (ps.flatMap Xdg++[S ⟨lit.toArray⟩,I 0,B false]) 284 true)::K):=hG4
    clear hG1 hG2 hG3 hG4 e1 e2 e3 e4 hst
    repeat(first|refine Zez ?_|refine ZL ?_)
    refine X5 rfl rfl rfl rfl rfl rfl (by decide) (Xrj c s a pl e ad _ _ _ _ hG.tail) ?_
    rintro _ G2 ⟨rfl,hG2⟩
    repeat(first|refine ZJ ?_)
    refine Xbr rfl (.inl rfl) ⟨rfl,XrG,XaQ,H2.length,[],.inl rfl,.inl ⟨rfl,rfl,rfl⟩,?_⟩
    rw [List.length_append,List.flatMap_append]
    exact hG2
end Go.Proofs.YtlcphjcpoinolaaGreat
