/- Part of the proof: the walk over the program and its laws: Eh Co. -/
import Derived.Test.YtlcphjcpoinolaaGreatP0
import Derived.Test.YtlcphjcpoinolaaGreatP14
import Derived.Test.YtlcphjcpoinolaaGreatP3
set_option linter.unusedVariables false
namespace Go.Proofs.YtlcphjcpoinolaaGreat
open Go.RowKit Go.Th
set_option maxRecDepth 20000
def Xaw:PV:=.v (.slice none 0 0)
def Xrr:Blk:=⟨[Xaw,Xaw,Xaw,Xaw],51,true⟩
set_option maxHeartbeats 16000000 in
theorem XkO (x y:Doc):Iso Tryz.prog 22 [.agg (X3 x),.agg (X3 y)] (fun p=>p=B (eqv x y)):=by
  have hG:=Xc
  refine Xb Tryz.func22 rfl rfl rfl ?_
  have h1:=XeG x.fin y.fin
  have t1:∀ c ∈ [PV.agg (XN x.fin),PV.agg (XN y.fin)],Xi c:=TreeL.cons (Xi.agg (Xah _)) (TreeL.cons (Xi.agg (Xah _)) TreeL.nil)
  have h2:=Xmd x.sets.lists y.sets.lists (fun _ a b _ _=>Xqw a b)
  repeat(first|refine Zd1 ?_|(refine ZI ?_;intro id G hG))
  refine XtH 4 5 Xrr Xrr hG mixed rfl (by decide +kernel) (N:=2) (by decide +kernel) fun g1 g2 G hG=>?_
  have hG1:=hG.set (k:=1) rfl ⟨XaW x.sets,51,true⟩
  have hG2:=hG1.set (k:=0) rfl ⟨XaW y.sets,51,true⟩
  refine ⟨[G.set g1 (some ⟨XaW x.sets,51,true⟩),(G.set g1 (some ⟨XaW x.sets,51,true⟩)).set g2 (some ⟨XaW y.sets,51,true⟩)],_,rfl,?_⟩
  refine ZaP ?_
  refine Xxc 0 rfl (by decide +kernel) (by decide +kernel) rfl rfl rfl rfl (by decide) (Xm rfl rfl (hG.get 3 _ _ rfl) rfl) ?_
  refine ZaP ?_
  refine F_r2 0 rfl (by decide +kernel) (by decide +kernel) rfl rfl rfl rfl rfl (by decide) (Xm rfl rfl (hG.get 2 _ _ rfl) rfl) (Xm rfl rfl (hG1.get 2 _ _ rfl) rfl) ?_
  refine F_f1 0 rfl rfl (by decide +kernel) (by decide +kernel) rfl rfl rfl (by decide) (XhP rfl rfl) (hG.get 1 _ _ rfl) ?_
  refine F_f1 0 rfl rfl (by decide +kernel) (by decide +kernel) rfl rfl rfl (by decide) (XhP rfl rfl) (hG.get 0 _ _ rfl) ?_
  refine F_s 0 rfl (by decide +kernel) rfl rfl rfl rfl (Xap rfl rfl rfl (hG.get 1 _ _ rfl) rfl rfl rfl rfl rfl) rfl ?_
  refine F_s 1 rfl (by decide +kernel) rfl rfl rfl rfl (Xap rfl rfl rfl (hG1.get 0 _ _ rfl) rfl rfl rfl rfl rfl) rfl ?_
  refine XAQ ?_
  have hG:=hG2
  clear hG1 hG2
  repeat(first|refine Zd3 ?_|(refine Xr rfl rfl rfl rfl rfl rfl (by decide) (Xmf _ _) (TreeL.cons (XF _) (TreeL.cons (XF _) TreeL.nil)) ?_;rintro _ rfl)|refine Zbh ?_|refine Xbl 3 hG rfl rfl (by decide) rfl rfl rfl rfl ?_)
  generalize hb0:eqv x.flow y.flow=b0
  repeat(first|refine XcH (fun hb=>by subst hb;exact Iso.K rfl rfl rfl rfl h1 t1) rfl rfl rfl rfl rfl (by decide) ?_|refine XcH (fun hb=>by subst hb;exact Iso.K rfl rfl rfl rfl (Xqu _ _) (TreeL.cons (Xa9 _) (TreeL.cons (Xa9 _) TreeL.nil))) rfl rfl rfl rfl rfl (by decide) ?_|refine XcH (fun hb=>by subst hb;exact Iso.K rfl rfl rfl rfl (XkL _ _) (TreeL.cons (XI _) (TreeL.cons (XI _) TreeL.nil))) rfl rfl rfl rfl rfl (by decide) ?_|refine XcH (fun hb=>by subst hb;exact Iso.K rfl rfl rfl rfl h2 (TreeL.cons (XaL _) (TreeL.cons (XaL _) (TreeL.cons (Xi.fn Xp) TreeL.nil)))) rfl rfl rfl rfl rfl (by decide) ?_|refine XcH (fun hb=>by subst hb;exact Iso.K rfl rfl rfl rfl (Xjr _ _) (TreeL.cons (XaM _) (TreeL.cons (XaM _) TreeL.nil))) rfl rfl rfl rfl rfl (by decide) ?_|refine XcH (fun hb=>by subst hb;exact Iso.K rfl rfl rfl rfl (Xqs _ _) (TreeL.cons (Xb8 _) (TreeL.cons (Xb8 _) TreeL.nil))) rfl rfl rfl rfl rfl (by decide) ?_|refine Zd4 ?_|refine XdV (fun hb=>by subst hb;exact XaJ rfl rfl) rfl rfl rfl rfl rfl (by decide) ?_|refine XdV (fun hb=>by subst hb;exact Xm rfl rfl (hG.get 2 _ _ rfl) rfl) rfl rfl rfl rfl rfl (by decide) ?_|refine XdV (fun hb=>by subst hb;exact Xm rfl rfl (hG.get 3 _ _ rfl) rfl) rfl rfl rfl rfl rfl (by decide) ?_|(refine ZaZ ?_;intro bv hbv))
  repeat(first|refine Zd3 ?_)
  subst_vars
  refine ZaF ?_
  rw [Xwz];rfl
end Go.Proofs.YtlcphjcpoinolaaGreat
namespace Go.Proofs.YtlcphjcpoinolaaGreat
open Go.RowKit Go.Th
def Xjw (h:Head):Nat:=h.props.length / 8+h.dels.length / 8+h.lyrs.length / 8
mutual
def XbH:Item→Nat
  | .mk _ _ _ t h f r=>1+Xjw h+(Xz f+XbZ r)+t.size / 401
def Xz:List Item→Nat
  | []=>0
  | x::l=>XbH x+Xz l
def XfA:Row→Nat
  | .mk h c=>1+Xjw h+Xco c
def XbZ:List Row→Nat
  | []=>0
  | x::l=>XfA x+XbZ l
def XfB:Cell→Nat
  | .mk _ h f=>1+Xjw h+Xz f
def Xco:List Cell→Nat
  | []=>0
  | x::l=>XfB x+Xco l
end
theorem XcC:∀ {l:List Item} {x:Item},x ∈ l→XbH x≤Xz l
  | y::l,x,h=>by
    rcases List.mem_cons.1 h with rfl | h
    · simp only [Xz];omega
    · have:=XcC h;simp only [Xz];omega
theorem XcB:∀ {l:List Row} {x:Row},x ∈ l→XfA x≤XbZ l
  | y::l,x,h=>by
    rcases List.mem_cons.1 h with rfl | h
    · simp only [XbZ];omega
    · have:=XcB h;simp only [XbZ];omega
theorem XcE:∀ {l:List Cell} {x:Cell},x ∈ l→XfB x≤Xco l
  | y::l,x,h=>by
    rcases List.mem_cons.1 h with rfl | h
    · simp only [Xco];omega
    · have:=XcE h;simp only [Xco];omega
theorem XaH:∀ l:List Item,l.length≤Xz l
  | []=>Nat.zero_le _
  | .mk _ _ _ _ _ _ _::l=>by have:=XaH l;simp only [Xz,XbH,List.length_cons];omega
theorem Xcf:∀ l:List Row,l.length≤XbZ l
  | []=>Nat.zero_le _
  | .mk _ _::l=>by have:=Xcf l;simp only [XbZ,XfA,List.length_cons];omega
theorem Xcg:∀ l:List Cell,l.length≤Xco l
  | []=>Nat.zero_le _
  | .mk _ _ _::l=>by have:=Xcg l;simp only [Xco,XfB,List.length_cons];omega
end Go.Proofs.YtlcphjcpoinolaaGreat
