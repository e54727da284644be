/- Part of the proof: the walk over the program and its laws: Jy Jz. -/
import Derived.Test.YtlcphjcpoinolaaGreatRows
import Derived.ProofKit
import Derived.JoinedOf
import Derived.Test.YtlcphjcpoinolaaGreatChecked
import Derived.WideKeyArgs
import Derived.Test.YtlcphjcpoinolaaGreatP0
import Derived.Test.YtlcphjcpoinolaaGreatP4
import Derived.Test.YtlcphjcpoinolaaGreatP10
import Derived.Test.YtlcphjcpoinolaaGreatP53
set_option linter.unusedVariables false
namespace Go.Proofs.YtlcphjcpoinolaaGreat
open Go.ChangeShapes Go.WideShapes Go.ChangeAt Go.RowKit
set_option maxRecDepth 100000
theorem XBF:(Rows.fragmentStringsRow.wf (OpenSpec.ofChange Rows.fragmentStringsSpec))=true:=by kernel_rfl
theorem XBE:(laidOutB Tryz.prog)=true:=by kernel_rfl
theorem XBD:(mapsRowed Tryz.prog)=true:=by kernel_rfl
theorem XBC:(Tryz.f4.params.all (Tryz.prog.readableRec ·))=true:=by kernel_rfl
theorem XBB:(namedTie Tryz.prog Rows.fragmentStringsRow.named Rows.fragmentStringsSpec.vars)=true:=by kernel_rfl
theorem XBA:((Rows.fragmentStringsRow.stops == []))=true:=by kernel_rfl
theorem XBz:((Tryz.prog.stops == []))=true:=by kernel_rfl
theorem XBy:((Rows.fragmentStringsRow.knobs == []))=true:=by kernel_rfl
theorem XBx:((Tryz.prog.stopKnobs == []))=true:=by kernel_rfl
theorem XAA:((Rows.fragmentStringsRow.inPlace == Tryz.prog.inPlace 4))=true:=by kernel_rfl
theorem XAz:((Rows.fragmentStringsRow.unfollowed == Tryz.prog.unfollowed 4))=true:=by kernel_rfl
theorem XAy:((Rows.fragmentStringsRow.recurses == Tryz.prog.recurses 4))=true:=by kernel_rfl
theorem XAx:((Rows.fragmentStringsRow.named == Tryz.prog.varsNamed 4))=true:=by kernel_rfl
theorem XAw:((Rows.fragmentStringsRow.maps == (Tryz.f4.params.toList++Rows.fragmentStringsSpec.plain.varTypes Tryz.prog).any (Tryz.prog.mapsRec ·)))=true:=by kernel_rfl
theorem XAv:((Rows.fragmentStringsRow.ifaces == (Tryz.f4.params.toList++Rows.fragmentStringsSpec.plain.varTypes Tryz.prog).any (Tryz.prog.ifacesRec ·)))=true:=by kernel_rfl
theorem XAu:((Rows.fragmentStringsRow.mapsOut == Tryz.prog.mapsAmong Tryz.f4.resultTypes.toList))=true:=by kernel_rfl
theorem XAt:((Rows.fragmentStringsRow.loops == (Tryz.f4.params.toList++Rows.fragmentStringsSpec.plain.varTypes Tryz.prog).any (Tryz.prog.loopsFrom ·)))=true:=by kernel_rfl
theorem XAs:((Rows.fragmentStringsRow.wideKeys == (Tryz.f4.params.toList++Rows.fragmentStringsSpec.plain.varTypes Tryz.prog++Tryz.f4.resultTypes.toList).any (Tryz.prog.wideKeysFrom ·)))=true:=by kernel_rfl
theorem XAr:(Rows.fragmentStringsSpec.vars.all (Tryz.prog.varReadable ·))=true:=by kernel_rfl
theorem XAq:(Tryz.f4.resultTypes.all (fun t=>Tryz.prog.readableRec t && decide (t < Tryz.prog.types.size)))=true:=by kernel_rfl
theorem XAp:((Rows.fragmentStringsRow.ifacesOut == Tryz.f4.resultTypes.toList.any (Tryz.prog.ifacesRec ·)))=true:=by kernel_rfl
theorem XAo:((Rows.fragmentStringsRow.loopsOut == Tryz.f4.resultTypes.toList.any (Tryz.prog.loopsFrom ·)))=true:=by kernel_rfl
theorem XAn:((Rows.fragmentStringsRow.plainKeys == Tryz.prog.plainKeys))=true:=by kernel_rfl
theorem XAm:(Rows.fragmentStringsRow.shortTexts.isNone)=true:=by kernel_rfl
theorem XAl:(Tryz.prog.stopsHeard)=true:=by kernel_rfl
theorem XAk:(Tryz.prog.mayEnter)=true:=by kernel_rfl
theorem XAj:((Rows.fragmentStringsRow.lifted == Tryz.prog.liftsFinal))=true:=by kernel_rfl
theorem XAi:((Tryz.prog.make == some Rows.fragmentStringsRow.make))=true:=by kernel_rfl
theorem XAh:((Rows.fragmentStringsRow.kinds == (if Rows.fragmentStringsRow.domain.isEmpty then [] else Tryz.f4.params.toList.map fun t=>match Tryz.prog.underlying t with | some (.int k)=>some k | _=>none)))=true:=by kernel_rfl
theorem XAg:((Rows.fragmentStringsRow.pinned == Rows.fragmentStringsRow.pinnedBy))=true:=by kernel_rfl
theorem XAf:((Rows.fragmentStringsRow.veiled == (Tryz.f4.params.toList++Rows.fragmentStringsSpec.plain.varTypes Tryz.prog++Tryz.f4.resultTypes.toList).any (Tryz.prog.veiledRec ·)))=true:=by kernel_rfl
theorem XAe:(Rows.fragmentStringsRow.veiledFits Tryz.prog Tryz.f4.params.toList (Tryz.f4.params.toList++Rows.fragmentStringsSpec.plain.varTypes Tryz.prog++Tryz.f4.resultTypes.toList))=true:=by kernel_rfl
theorem Xfc {a b:Bool} (h:a=true) (k:b=true):(a && b)=true:=by rw [h,k];rfl
theorem facts:joinedFacts Tryz.pinned.checked.prog 4 Tryz.f4 Rows.fragmentStringsSpec Rows.fragmentStringsRow=true:=Xfc (Xfc (Xfc (Xfc (Xfc (Xfc (Xfc (Xfc (Xfc (Xfc (Xfc (Xfc (Xfc (Xfc (Xfc (Xfc (Xfc (Xfc (Xfc (Xfc (Xfc (Xfc (Xfc (Xfc (Xfc (Xfc (Xfc (Xfc (Xfc (Xfc (Xfc XBF XBE) XBD) XBC) XBB) XBA) XBz) XBy) XBx) XAA) XAz) XAy) XAx) XAw) XAv) XAu) XAt) XAs) XAr) XAq) XAp) XAo) XAn) XAm) XAl) XAk) XAj) XAi) XAh) XAg) XAf) XAe
theorem XBr:Tryz.f4.isInstance Tryz.pinned.checked.prog Rows.fragmentStringsRow.origin Rows.fragmentStringsRow.targs:=of_decide_eq_true (by kernel_rfl)
theorem XA1:Tryz.f4.isWrapper Tryz.pinned.checked.prog Rows.fragmentStringsRow.wrapper Rows.fragmentStringsRow.mainSum:=by
  unfold Func.isWrapper
  first
    | (rw [if_pos (by decide +kernel)];kernel_rfl)
    | (rw [if_neg (by decide +kernel)];exact ⟨rfl,rfl⟩)
theorem XyJ:Tryz.pinned.checked.prog.funcNamed Rows.fragmentStringsRow.func=some 4:=by kernel_rfl
end Go.Proofs.YtlcphjcpoinolaaGreat
namespace Go.Proofs.YtlcphjcpoinolaaGreat
open Go.ChangeShapes Go.WideShapes Go.ChangeAt Go.RowKit Go.Th Go.ChangeMaps
theorem XlP:Iso Tryz.prog 5 [] (fun p=>p=B true):=Xkt Tryz.func5 (by kernel_rfl) (by kernel_rfl) Xi5
set_option maxRecDepth 100000 in
theorem Xd3 (os:Os) (started:os.Started) (H:Type) (enc:TypeId × Value→H) :
    ReturnsInHanded {} Tryz.checked os 4 .any (Rows.fragmentStringsSpec.pre6 enc Tryz.prog Tryz.f4 Rows.fragmentStringsRow.domain false) (Rows.fragmentStringsSpec.post enc Tryz.prog Tryz.f4 false true false false):=by
  refine returnsInHanded_of_change (C:=Tryz.checked) XrP started (by kernel_rfl) Tryz.func4
    (ChangeSpec.witness6 (enc:=enc) (C:=Tryz.checked) false ⟨#[],#[.string ⟨#[]⟩],[]⟩ 8 (by kernel_rfl) (by kernel_rfl) (by kernel_rfl) (by kernel_rfl)) ?_
  intro W base args ds gs before hval0 hW hcnd _
  have hval:∀ (j:Nat) t v,Tryz.f4.params[j]?=some t→args[j]?=some v→Value.okWide Tryz.prog W .any base t v:=hval0
  have hW':=hW
  obtain ⟨p,q,hA0,hV,rfl,hfz,hnd⟩:=hW
  have hA:DataW.TrodAll enc Tryz.prog W 0 (fun _=>true) true Tryz.f4.params.toList args.toList ds p:=hA0
  rw [Tryz.params4] at hA hval
  obtain ⟨v0,vs0,d0,ds0,p0,q0,hargs,rfl,rfl,h0,r0⟩:=trodAll_cons hA
  obtain ⟨rfl,rfl,rfl⟩:=trodAll_nil r0
  obtain rfl:args=#[v0]:=by cases args;simp_all
  obtain ⟨rfl,rfl⟩:=trodVars_none hV
  obtain ⟨s0,rfl,rfl,rfl,w0⟩:=open_string Tryz.underlying9 (hval 0 9 v0 rfl rfl) h0
  clear hA0 hval0
  simp only [List.append_nil] at hW'
  refine (XpZ (W:=W) (Xlw s0 XlP) (vals:=#[.string s0]) ⟨rfl,fun j c hj=>?_⟩).mono fun e W' ⟨he,hb⟩=>?_
  · match j with
    | 0=>simp at hj;subst hj;exact .v _ rfl
    | j+1=>simp at hj
  subst he
  exact ⟨_,rfl,XiZ (pa:=[]) (pv:=[]) hW' (fun _ _ _=>(trodAll_cons_mk (shut_bool Tryz.underlying4 _) trodAll_mk0))
    (fun sp hsp=>trodAll_cons_mk (shut_string Tryz.underlying9 w0) trodAll_mk0)
    (fun _ _=>rfl) (by simp) hb (ok_one (by kernel_rfl) rfl (okWide_bool_mk Tryz.underlying4 _))⟩
theorem XeM:Rows.fragmentStringsRow.holds Tryz.pinned (OpenSpec.ofChange Rows.fragmentStringsSpec) :=
  OpenClaim.holds_of_wide 4 Tryz.f4 rfl rfl rfl rfl rfl rfl rfl ⟨rfl,rfl,rfl,rfl,rfl⟩ rfl rfl rfl rfl rfl XyJ Tryz.func4 facts XBr XA1
    (fun os started H enc _=>Xd3 os started H enc)
theorem fragmentStrings:Rows.FragmentStringsSaid:=XeM
end Go.Proofs.YtlcphjcpoinolaaGreat
