/- Part of the proof: the walk over the program and its laws: EvOk EvK. -/
import Derived.Test.YtlcphjcpoinolaaGreatP0
import Derived.Test.YtlcphjcpoinolaaGreatP9
set_option linter.unusedVariables false
namespace Go.Ev
def BT.All {α:Type} (p:Nat→α→Prop):BT α→(Nat→Nat)→Prop
  | .leaf,_=>True
  | .node l v r,f=>(match v with | some a=>p (f 0) a | none=>True)∧l.All p (fun m=>f (2 * m+1))∧r.All p (fun m=>f (2 * m+2))
theorem BT.all_get {α:Type} {p:Nat→α→Prop}:∀ (t:BT α) (f:Nat→Nat) (n:Nat) (a:α),t.All p f→t.get n=some a→p (f n) a
  | .leaf,_,n,_,_,hg=>by simp [BT.get] at hg
  | .node l v r,f,n,a,h,hg=>by
    obtain ⟨h1,h2,h3⟩:=h
    cases n with
    | zero=>simp only [BT.get] at hg;subst hg;exact h1
    | succ k =>
      simp only [BT.get] at hg
      split at hg
      · rename_i hb
        have hb:=Nat.eq_of_beq_eq_true hb
        have:=BT.all_get l _ (k / 2) a h2 hg
        rwa [show 2 * (k / 2)+1=k+1 from by omega] at this
      · rename_i hb
        have hb:=Nat.ne_of_beq_eq_false hb
        have:=BT.all_get r _ (k / 2) a h3 hg
        rwa [show 2 * (k / 2)+2=k+1 from by omega] at this
theorem Xbm {P:Program} {t:TypeId} {size bytes:Nat} {zv:Value} (h:(P.info? t).map (fun i=>(i.zero,i.size,i.bytes))=some (some zv,size,bytes)):∃ inf,P.info? t=some inf∧inf.zero=some zv:=by
  cases hi:P.info? t with
  | none=>rw [hi] at h;cases h
  | some i =>
    rw [hi] at h
    simp only [Option.map_some,Option.some.injEq,Prod.mk.injEq] at h
    exact ⟨i,rfl,h.1⟩
theorem Xv {P:Program} {t:TypeId} {size bytes:Nat} {zv:Value} {z:List Value} (h:(P.info? t).map (fun i=>(i.zero,i.size,i.bytes))=some (some zv,size,bytes)) (hz:zv.cells.toList=z):HasI P t size bytes z:=by
  cases hi:P.info? t with
  | none=>rw [hi] at h;cases h
  | some i =>
    rw [hi] at h
    simp only [Option.map_some,Option.some.injEq,Prod.mk.injEq] at h
    exact ⟨i,zv,hi,h.2.1,h.2.2,h.1,hz⟩
end Go.Ev
namespace Go.Proofs.YtlcphjcpoinolaaGreat
open Go Go.Ev
def Xb1 (t:Nat) (i:TI):Prop:=HasU Tryz.prog t i.desc∧HasI Tryz.prog t i.size i.bytes i.zero∧(∀ fs,i.desc=.struct fs→HasB Tryz.prog t i.places)∧∀ z,i.sc=some z→∃ inf,Tryz.prog.info? t=some inf∧inf.zero=some z
def Xae (f:Nat) (fn:Func):Prop:=Tryz.prog.funcs[f]?=some fn∧(fn.name == "runtime.NumGoroutine")=false
theorem XBa:Xb1 3 ty3:=have h:(Tryz.prog.info? 3).map (fun i=>(i.zero,i.size,i.bytes))=some (some ((.int .i64 0)),1,8):=(by kernel_rfl);⟨⟨Tryz.underlying3⟩,Xv h rfl,(fun fs h=>by cases h),fun z hz=>by cases hz;exact Xbm h⟩
theorem XA9:Xb1 4 ty4:=have h:(Tryz.prog.info? 4).map (fun i=>(i.zero,i.size,i.bytes))=some (some ((.bool false)),1,1):=(by kernel_rfl);⟨⟨Tryz.underlying4⟩,Xv h rfl,(fun fs h=>by cases h),fun z hz=>by cases hz;exact Xbm h⟩
theorem XA8:Xb1 5 ty5:=have h:(Tryz.prog.info? 5).map (fun i=>(i.zero,i.size,i.bytes))=some (some ((.int .u8 0)),1,1):=(by kernel_rfl);⟨⟨Tryz.underlying5⟩,Xv h rfl,(fun fs h=>by cases h),fun z hz=>by cases hz;exact Xbm h⟩
theorem XA7:Xb1 9 ty9:=have h:(Tryz.prog.info? 9).map (fun i=>(i.zero,i.size,i.bytes))=some (some ((.string .empty)),1,16):=(by kernel_rfl);⟨⟨Tryz.underlying9⟩,Xv h rfl,(fun fs h=>by cases h),fun z hz=>by cases hz;exact Xbm h⟩
theorem XxP:Xb1 22 ty22:=have h:(Tryz.prog.info? 22).map (fun i=>(i.zero,i.size,i.bytes))=some (some ((.slice none 0 0)),1,24):=(by kernel_rfl);⟨⟨Tryz.underlying22⟩,Xv h rfl,(fun fs h=>by cases h),fun z hz=>by cases hz;exact Xbm h⟩
theorem XxO:Xb1 23 ty23:=have h:(Tryz.prog.info? 23).map (fun i=>(i.zero,i.size,i.bytes))=some (some ((.slice none 0 0)),1,24):=(by kernel_rfl);⟨⟨Tryz.underlying23⟩,Xv h rfl,(fun fs h=>by cases h),fun z hz=>by cases hz;exact Xbm h⟩
theorem XxN:Xb1 24 ty24:=have h:(Tryz.prog.info? 24).map (fun i=>(i.zero,i.size,i.bytes))=some (some ((.slice none 0 0)),1,24):=(by kernel_rfl);⟨⟨Tryz.underlying24⟩,Xv h rfl,(fun fs h=>by cases h),fun z hz=>by cases hz;exact Xbm h⟩
theorem XxM:Xb1 26 ty26:=have h:(Tryz.prog.info? 26).map (fun i=>(i.zero,i.size,i.bytes))=some (some (.agg #[(.slice none 0 0),(.slice none 0 0),(.slice none 0 0)]),3,72):=(by kernel_rfl);⟨⟨Tryz.underlying26⟩,Xv h rfl,(fun fs h=>⟨_,Tryz.underlying26,by kernel_rfl⟩),fun z hz=>by cases hz⟩
theorem XxL:Xb1 29 ty29:=have h:(Tryz.prog.info? 29).map (fun i=>(i.zero,i.size,i.bytes))=some (some ((.int .i64 0)),1,8):=(by kernel_rfl);⟨⟨Tryz.underlying29⟩,Xv h rfl,(fun fs h=>by cases h),fun z hz=>by cases hz;exact Xbm h⟩
theorem XxK:Xb1 37 ty37:=have h:(Tryz.prog.info? 37).map (fun i=>(i.zero,i.size,i.bytes))=some (some ((.slice none 0 0)),1,24):=(by kernel_rfl);⟨⟨Tryz.underlying37⟩,Xv h rfl,(fun fs h=>by cases h),fun z hz=>by cases hz;exact Xbm h⟩
theorem XxJ:Xb1 38 ty38:=have h:(Tryz.prog.info? 38).map (fun i=>(i.zero,i.size,i.bytes))=some (some ((.slice none 0 0)),1,24):=(by kernel_rfl);⟨⟨Tryz.underlying38⟩,Xv h rfl,(fun fs h=>by cases h),fun z hz=>by cases hz;exact Xbm h⟩
theorem XxI:Xb1 39 ty39:=have h:(Tryz.prog.info? 39).map (fun i=>(i.zero,i.size,i.bytes))=some (some ((.slice none 0 0)),1,24):=(by kernel_rfl);⟨⟨Tryz.underlying39⟩,Xv h rfl,(fun fs h=>by cases h),fun z hz=>by cases hz;exact Xbm h⟩
theorem XxH:Xb1 41 ty41:=have h:(Tryz.prog.info? 41).map (fun i=>(i.zero,i.size,i.bytes))=some (some (.agg #[(.int .i64 0),(.int .i64 0),(.slice none 0 0),(.slice none 0 0)]),4,64):=(by kernel_rfl);⟨⟨Tryz.underlying41⟩,Xv h rfl,(fun fs h=>⟨_,Tryz.underlying41,by kernel_rfl⟩),fun z hz=>by cases hz⟩
theorem XxG:Xb1 43 ty43:=have h:(Tryz.prog.info? 43).map (fun i=>(i.zero,i.size,i.bytes))=some (some (.agg #[(.slice none 0 0),(.int .i64 0),(.int .i64 0),(.slice none 0 0),(.slice none 0 0)]),5,88):=(by kernel_rfl);⟨⟨Tryz.underlying43⟩,Xv h rfl,(fun fs h=>⟨_,Tryz.underlying43,by kernel_rfl⟩),fun z hz=>by cases hz⟩
theorem XxF:Xb1 44 ty44:=have h:(Tryz.prog.info? 44).map (fun i=>(i.zero,i.size,i.bytes))=some (some ((.slice none 0 0)),1,24):=(by kernel_rfl);⟨⟨Tryz.underlying44⟩,Xv h rfl,(fun fs h=>by cases h),fun z hz=>by cases hz;exact Xbm h⟩
theorem XxE:Xb1 46 ty46:=have h:(Tryz.prog.info? 46).map (fun i=>(i.zero,i.size,i.bytes))=some (some (.agg #[(.int .i64 0),(.int .i64 0),(.int .i64 0),(.string .empty),(.slice none 0 0),(.int .i64 0),(.int .i64 0),(.slice none 0 0),(.slice none 0 0),(.slice none 0 0),(.slice none 0 0)]),11,176):=(by kernel_rfl);⟨⟨Tryz.underlying46⟩,Xv h rfl,(fun fs h=>⟨_,Tryz.underlying46,by kernel_rfl⟩),fun z hz=>by cases hz⟩
theorem XxD:Xb1 47 ty47:=have h:(Tryz.prog.info? 47).map (fun i=>(i.zero,i.size,i.bytes))=some (some ((.slice none 0 0)),1,24):=(by kernel_rfl);⟨⟨Tryz.underlying47⟩,Xv h rfl,(fun fs h=>by cases h),fun z hz=>by cases hz;exact Xbm h⟩
theorem XxC:Xb1 48 ty48:=have h:(Tryz.prog.info? 48).map (fun i=>(i.zero,i.size,i.bytes))=some (some ((.slice none 0 0)),1,24):=(by kernel_rfl);⟨⟨Tryz.underlying48⟩,Xv h rfl,(fun fs h=>by cases h),fun z hz=>by cases hz;exact Xbm h⟩
theorem XxB:Xb1 49 ty49:=have h:(Tryz.prog.info? 49).map (fun i=>(i.zero,i.size,i.bytes))=some (some ((.slice none 0 0)),1,24):=(by kernel_rfl);⟨⟨Tryz.underlying49⟩,Xv h rfl,(fun fs h=>by cases h),fun z hz=>by cases hz;exact Xbm h⟩
theorem XxA:Xb1 51 ty51:=have h:(Tryz.prog.info? 51).map (fun i=>(i.zero,i.size,i.bytes))=some (some (.agg #[(.slice none 0 0),(.slice none 0 0),(.slice none 0 0),(.slice none 0 0)]),4,96):=(by kernel_rfl);⟨⟨Tryz.underlying51⟩,Xv h rfl,(fun fs h=>⟨_,Tryz.underlying51,by kernel_rfl⟩),fun z hz=>by cases hz⟩
theorem Xxz:Xb1 53 ty53:=have h:(Tryz.prog.info? 53).map (fun i=>(i.zero,i.size,i.bytes))=some (some (.agg #[(.slice none 0 0),(.slice none 0 0),(.int .i64 0),(.int .i64 0),(.slice none 0 0),(.slice none 0 0),(.slice none 0 0),(.slice none 0 0),(.slice none 0 0),(.slice none 0 0),(.slice none 0 0)]),11,232):=(by kernel_rfl);⟨⟨Tryz.underlying53⟩,Xv h rfl,(fun fs h=>⟨_,Tryz.underlying53,by kernel_rfl⟩),fun z hz=>by cases hz⟩
theorem Xxy:Xb1 56 ty56:=have h:(Tryz.prog.info? 56).map (fun i=>(i.zero,i.size,i.bytes))=some (some (.agg #[(.int .i64 0),(.int .i64 0),(.int .i64 0)]),3,24):=(by kernel_rfl);⟨⟨Tryz.underlying56⟩,Xv h rfl,(fun fs h=>⟨_,Tryz.underlying56,by kernel_rfl⟩),fun z hz=>by cases hz⟩
theorem Xxx:Xb1 57 ty57:=have h:(Tryz.prog.info? 57).map (fun i=>(i.zero,i.size,i.bytes))=some (some ((.slice none 0 0)),1,24):=(by kernel_rfl);⟨⟨Tryz.underlying57⟩,Xv h rfl,(fun fs h=>by cases h),fun z hz=>by cases hz;exact Xbm h⟩
theorem Xxw:Xb1 78 ty78:=have h:(Tryz.prog.info? 78).map (fun i=>(i.zero,i.size,i.bytes))=some (some ((.pointer none)),1,8):=(by kernel_rfl);⟨⟨Tryz.underlying78⟩,Xv h rfl,(fun fs h=>by cases h),fun z hz=>by cases hz;exact Xbm h⟩
theorem Xxv:Xb1 79 ty79:=have h:(Tryz.prog.info? 79).map (fun i=>(i.zero,i.size,i.bytes))=some (some ((.slice none 0 0)),1,24):=(by kernel_rfl);⟨⟨Tryz.underlying79⟩,Xv h rfl,(fun fs h=>by cases h),fun z hz=>by cases hz;exact Xbm h⟩
theorem Xxu:Xb1 81 ty81:=have h:(Tryz.prog.info? 81).map (fun i=>(i.zero,i.size,i.bytes))=some (some (.agg #[(.pointer none),(.slice none 0 0)]),2,32):=(by kernel_rfl);⟨⟨Tryz.underlying81⟩,Xv h rfl,(fun fs h=>⟨_,Tryz.underlying81,by kernel_rfl⟩),fun z hz=>by cases hz⟩
theorem Xxt:Xb1 92 ty92:=have h:(Tryz.prog.info? 92).map (fun i=>(i.zero,i.size,i.bytes))=some (some ((.slice none 0 0)),1,24):=(by kernel_rfl);⟨⟨Tryz.underlying92⟩,Xv h rfl,(fun fs h=>by cases h),fun z hz=>by cases hz;exact Xbm h⟩
theorem Xxs:Xb1 94 ty94:=have h:(Tryz.prog.info? 94).map (fun i=>(i.zero,i.size,i.bytes))=some (some (.agg #[(.slice none 0 0),(.int .i64 0),(.int .i64 0),(.slice none 0 0),(.slice none 0 0),(.slice none 0 0)]),6,112):=(by kernel_rfl);⟨⟨Tryz.underlying94⟩,Xv h rfl,(fun fs h=>⟨_,Tryz.underlying94,by kernel_rfl⟩),fun z hz=>by cases hz⟩
theorem Xxr:Xb1 96 ty96:=have h:(Tryz.prog.info? 96).map (fun i=>(i.zero,i.size,i.bytes))=some (some (.agg #[(.int .i64 0),(.slice none 0 0),(.int .i64 0),(.int .i64 0),(.slice none 0 0),(.slice none 0 0),(.slice none 0 0)]),7,120):=(by kernel_rfl);⟨⟨Tryz.underlying96⟩,Xv h rfl,(fun fs h=>⟨_,Tryz.underlying96,by kernel_rfl⟩),fun z hz=>by cases hz⟩
theorem Xuc:Xb1 100 Xyi:=have h:(Tryz.prog.info? 100).map (fun i=>(i.zero,i.size,i.bytes))=some (some (.agg #[(.int .i64 0),(.int .i64 0),(.string .empty),(.int .i64 0),(.int .i64 0),(.slice none 0 0)]),6,72):=(by kernel_rfl);⟨⟨Tryz.underlying100⟩,Xv h rfl,(fun fs h=>⟨_,Tryz.underlying100,by kernel_rfl⟩),fun z hz=>by cases hz⟩
theorem Xub:Xb1 101 Xyh:=have h:(Tryz.prog.info? 101).map (fun i=>(i.zero,i.size,i.bytes))=some (some ((.slice none 0 0)),1,24):=(by kernel_rfl);⟨⟨Tryz.underlying101⟩,Xv h rfl,(fun fs h=>by cases h),fun z hz=>by cases hz;exact Xbm h⟩
theorem Xua:Xb1 103 Xyg:=have h:(Tryz.prog.info? 103).map (fun i=>(i.zero,i.size,i.bytes))=some (some (.agg #[(.int .i64 0),(.slice none 0 0)]),2,32):=(by kernel_rfl);⟨⟨Tryz.underlying103⟩,Xv h rfl,(fun fs h=>⟨_,Tryz.underlying103,by kernel_rfl⟩),fun z hz=>by cases hz⟩
theorem Xt9:Xb1 107 Xyf:=have h:(Tryz.prog.info? 107).map (fun i=>(i.zero,i.size,i.bytes))=some (some ((.pointer none)),1,8):=(by kernel_rfl);⟨⟨Tryz.underlying107⟩,Xv h rfl,(fun fs h=>by cases h),fun z hz=>by cases hz;exact Xbm h⟩
theorem Xt8:Xb1 113 Xye:=have h:(Tryz.prog.info? 113).map (fun i=>(i.zero,i.size,i.bytes))=some (some (.agg #[(.bool false),(.bool false),(.int .i64 0)]),3,16):=(by kernel_rfl);⟨⟨Tryz.underlying113⟩,Xv h rfl,(fun fs h=>⟨_,Tryz.underlying113,by kernel_rfl⟩),fun z hz=>by cases hz⟩
theorem Xt7:Xb1 114 Xyd:=have h:(Tryz.prog.info? 114).map (fun i=>(i.zero,i.size,i.bytes))=some (some ((.map none)),1,8):=(by kernel_rfl);⟨⟨Tryz.underlying114⟩,Xv h rfl,(fun fs h=>by cases h),fun z hz=>by cases hz;exact Xbm h⟩
theorem Xt6:Xb1 115 Xyc:=have h:(Tryz.prog.info? 115).map (fun i=>(i.zero,i.size,i.bytes))=some (some ((.map none)),1,8):=(by kernel_rfl);⟨⟨Tryz.underlying115⟩,Xv h rfl,(fun fs h=>by cases h),fun z hz=>by cases hz;exact Xbm h⟩
theorem Xt5:Xb1 117 Xyb:=have h:(Tryz.prog.info? 117).map (fun i=>(i.zero,i.size,i.bytes))=some (some (.agg #[(.map none),(.map none),(.map none),(.map none),(.map none),(.int .i64 0)]),6,48):=(by kernel_rfl);⟨⟨Tryz.underlying117⟩,Xv h rfl,(fun fs h=>⟨_,Tryz.underlying117,by kernel_rfl⟩),fun z hz=>by cases hz⟩
theorem Xt4:Xb1 119 Xya:=have h:(Tryz.prog.info? 119).map (fun i=>(i.zero,i.size,i.bytes))=some (some (.nilFunc),1,8):=(by kernel_rfl);⟨⟨Tryz.underlying119⟩,Xv h rfl,(fun fs h=>by cases h),fun z hz=>by cases hz;exact Xbm h⟩
theorem Xt3:Xb1 120 Xx9:=have h:(Tryz.prog.info? 120).map (fun i=>(i.zero,i.size,i.bytes))=some (some (.nilFunc),1,8):=(by kernel_rfl);⟨⟨Tryz.underlying120⟩,Xv h rfl,(fun fs h=>by cases h),fun z hz=>by cases hz;exact Xbm h⟩
theorem Xt2:Xb1 121 Xx8:=have h:(Tryz.prog.info? 121).map (fun i=>(i.zero,i.size,i.bytes))=some (some (.nilFunc),1,8):=(by kernel_rfl);⟨⟨Tryz.underlying121⟩,Xv h rfl,(fun fs h=>by cases h),fun z hz=>by cases hz;exact Xbm h⟩
theorem Xt1:Xb1 123 Xx7:=have h:(Tryz.prog.info? 123).map (fun i=>(i.zero,i.size,i.bytes))=some (some (.agg #[.nilFunc,.nilFunc,.nilFunc]),3,24):=(by kernel_rfl);⟨⟨Tryz.underlying123⟩,Xv h rfl,(fun fs h=>⟨_,Tryz.underlying123,by kernel_rfl⟩),fun z hz=>by cases hz⟩
theorem Xt0:Xb1 127 Xx6:=have h:(Tryz.prog.info? 127).map (fun i=>(i.zero,i.size,i.bytes))=some (some (.agg #[(.int .i64 0),(.int .i64 0),(.string .empty),(.int .i64 0)]),4,40):=(by kernel_rfl);⟨⟨Tryz.underlying127⟩,Xv h rfl,(fun fs h=>⟨_,Tryz.underlying127,by kernel_rfl⟩),fun z hz=>by cases hz⟩
theorem XtZ:Xb1 133 Xx5:=have h:(Tryz.prog.info? 133).map (fun i=>(i.zero,i.size,i.bytes))=some (some (.agg #[(.int .i64 0),(.string .empty),(.int .i64 0)]),3,32):=(by kernel_rfl);⟨⟨Tryz.underlying133⟩,Xv h rfl,(fun fs h=>⟨_,Tryz.underlying133,by kernel_rfl⟩),fun z hz=>by cases hz⟩
theorem XtY:Xb1 138 Xx4:=have h:(Tryz.prog.info? 138).map (fun i=>(i.zero,i.size,i.bytes))=some (some (.agg #[(.int .i64 0),(.int .i64 0),(.string .empty),(.int .i64 0),(.string .empty),(.bool false)]),6,64):=(by kernel_rfl);⟨⟨Tryz.underlying138⟩,Xv h rfl,(fun fs h=>⟨_,Tryz.underlying138,by kernel_rfl⟩),fun z hz=>by cases hz⟩
theorem XtX:Xb1 141 Xx3:=have h:(Tryz.prog.info? 141).map (fun i=>(i.zero,i.size,i.bytes))=some (some (.agg #[(.string .empty),(.string .empty)]),2,32):=(by kernel_rfl);⟨⟨Tryz.underlying141⟩,Xv h rfl,(fun fs h=>⟨_,Tryz.underlying141,by kernel_rfl⟩),fun z hz=>by cases hz⟩
theorem XtW:Xb1 170 Xx2:=have h:(Tryz.prog.info? 170).map (fun i=>(i.zero,i.size,i.bytes))=some (some ((.pointer none)),1,8):=(by kernel_rfl);⟨⟨Tryz.underlying170⟩,Xv h rfl,(fun fs h=>by cases h),fun z hz=>by cases hz;exact Xbm h⟩
theorem XtV:Xb1 175 Xx1:=have h:(Tryz.prog.info? 175).map (fun i=>(i.zero,i.size,i.bytes))=some (some (.agg #[(.slice none 0 0),(.bool false),(.bool false),(.int .i64 0)]),4,40):=(by kernel_rfl);⟨⟨Tryz.underlying175⟩,Xv h rfl,(fun fs h=>⟨_,Tryz.underlying175,by kernel_rfl⟩),fun z hz=>by cases hz⟩
theorem XtU:Xb1 179 Xx0:=have h:(Tryz.prog.info? 179).map (fun i=>(i.zero,i.size,i.bytes))=some (some (.nilFunc),1,8):=(by kernel_rfl);⟨⟨Tryz.underlying179⟩,Xv h rfl,(fun fs h=>by cases h),fun z hz=>by cases hz;exact Xbm h⟩
theorem XtT:Xb1 183 XxZ:=have h:(Tryz.prog.info? 183).map (fun i=>(i.zero,i.size,i.bytes))=some (some (.agg #[(.int .i64 0),(.int .i64 0)]),2,16):=(by kernel_rfl);⟨⟨Tryz.underlying183⟩,Xv h rfl,(fun fs h=>⟨_,Tryz.underlying183,by kernel_rfl⟩),fun z hz=>by cases hz⟩
theorem XtS:Xb1 184 XxY:=have h:(Tryz.prog.info? 184).map (fun i=>(i.zero,i.size,i.bytes))=some (some (.nilFunc),1,8):=(by kernel_rfl);⟨⟨Tryz.underlying184⟩,Xv h rfl,(fun fs h=>by cases h),fun z hz=>by cases hz;exact Xbm h⟩
theorem XtR:Xb1 187 XxX:=have h:(Tryz.prog.info? 187).map (fun i=>(i.zero,i.size,i.bytes))=some (some ((.slice none 0 0)),1,24):=(by kernel_rfl);⟨⟨Tryz.underlying187⟩,Xv h rfl,(fun fs h=>by cases h),fun z hz=>by cases hz;exact Xbm h⟩
theorem XtQ:Xb1 199 XxW:=have h:(Tryz.prog.info? 199).map (fun i=>(i.zero,i.size,i.bytes))=some (some (.agg #[(.int .i64 0),(.int .i64 0)]),2,16):=(by kernel_rfl);⟨⟨Tryz.underlying199⟩,Xv h rfl,(fun fs h=>⟨_,Tryz.underlying199,by kernel_rfl⟩),fun z hz=>by cases hz⟩
theorem XtP:Xb1 203 XxV:=have h:(Tryz.prog.info? 203).map (fun i=>(i.zero,i.size,i.bytes))=some (some (.agg #[(.int .i64 0),(.int .i64 0),(.int .i64 0),(.bool false)]),4,32):=(by kernel_rfl);⟨⟨Tryz.underlying203⟩,Xv h rfl,(fun fs h=>⟨_,Tryz.underlying203,by kernel_rfl⟩),fun z hz=>by cases hz⟩
theorem XtO:Xb1 216 XxU:=have h:(Tryz.prog.info? 216).map (fun i=>(i.zero,i.size,i.bytes))=some (some ((.int .u64 0)),1,8):=(by kernel_rfl);⟨⟨Tryz.underlying216⟩,Xv h rfl,(fun fs h=>by cases h),fun z hz=>by cases hz;exact Xbm h⟩
theorem XtN:Xb1 259 XxT:=have h:(Tryz.prog.info? 259).map (fun i=>(i.zero,i.size,i.bytes))=some (some ((.pointer none)),1,8):=(by kernel_rfl);⟨⟨Tryz.underlying259⟩,Xv h rfl,(fun fs h=>by cases h),fun z hz=>by cases hz;exact Xbm h⟩
theorem XtM:Xb1 293 XxS:=have h:(Tryz.prog.info? 293).map (fun i=>(i.zero,i.size,i.bytes))=some (some ((.int .i64 0)),1,8):=(by kernel_rfl);⟨⟨Tryz.underlying293⟩,Xv h rfl,(fun fs h=>by cases h),fun z hz=>by cases hz;exact Xbm h⟩
theorem XtL:Xb1 300 XxR:=have h:(Tryz.prog.info? 300).map (fun i=>(i.zero,i.size,i.bytes))=some (some ((.int .u32 0)),1,4):=(by kernel_rfl);⟨⟨Tryz.underlying300⟩,Xv h rfl,(fun fs h=>by cases h),fun z hz=>by cases hz;exact Xbm h⟩
theorem XtK:Xb1 302 XxQ:=have h:(Tryz.prog.info? 302).map (fun i=>(i.zero,i.size,i.bytes))=some (some ((.int .u64 0)),1,8):=(by kernel_rfl);⟨⟨Tryz.underlying302⟩,Xv h rfl,(fun fs h=>by cases h),fun z hz=>by cases hz;exact Xbm h⟩
theorem XBw:Xae 5 Tryz.f5:=⟨Tryz.func5,by kernel_rfl⟩
theorem XBv:Xae 7 Tryz.f7:=⟨Tryz.func7,by kernel_rfl⟩
theorem XAa:Xae 10 Tryz.f10:=⟨Tryz.func10,by kernel_rfl⟩
theorem Xz9:Xae 13 Tryz.f13:=⟨Tryz.func13,by kernel_rfl⟩
theorem Xz8:Xae 14 Tryz.f14:=⟨Tryz.func14,by kernel_rfl⟩
theorem Xz7:Xae 15 Tryz.f15:=⟨Tryz.func15,by kernel_rfl⟩
theorem Xz6:Xae 18 Tryz.f18:=⟨Tryz.func18,by kernel_rfl⟩
theorem Xz5:Xae 19 Tryz.f19:=⟨Tryz.func19,by kernel_rfl⟩
theorem Xz4:Xae 20 Tryz.f20:=⟨Tryz.func20,by kernel_rfl⟩
theorem Xz3:Xae 21 Tryz.f21:=⟨Tryz.func21,by kernel_rfl⟩
theorem Xz2:Xae 22 Tryz.f22:=⟨Tryz.func22,by kernel_rfl⟩
theorem Xz1:Xae 23 Tryz.f23:=⟨Tryz.func23,by kernel_rfl⟩
theorem Xz0:Xae 28 Tryz.f28:=⟨Tryz.func28,by kernel_rfl⟩
theorem XzZ:Xae 32 Tryz.f32:=⟨Tryz.func32,by kernel_rfl⟩
theorem XzY:Xae 33 Tryz.f33:=⟨Tryz.func33,by kernel_rfl⟩
theorem XzX:Xae 36 Tryz.f36:=⟨Tryz.func36,by kernel_rfl⟩
theorem XzW:Xae 37 Tryz.f37:=⟨Tryz.func37,by kernel_rfl⟩
theorem XzV:Xae 38 Tryz.f38:=⟨Tryz.func38,by kernel_rfl⟩
theorem XzU:Xae 39 Tryz.f39:=⟨Tryz.func39,by kernel_rfl⟩
theorem XzT:Xae 40 Tryz.f40:=⟨Tryz.func40,by kernel_rfl⟩
theorem XzS:Xae 41 Tryz.f41:=⟨Tryz.func41,by kernel_rfl⟩
theorem XzR:Xae 42 Tryz.f42:=⟨Tryz.func42,by kernel_rfl⟩
theorem XzQ:Xae 43 Tryz.f43:=⟨Tryz.func43,by kernel_rfl⟩
theorem XzP:Xae 45 Tryz.f45:=⟨Tryz.func45,by kernel_rfl⟩
theorem XzO:Xae 46 Tryz.f46:=⟨Tryz.func46,by kernel_rfl⟩
theorem XzN:Xae 47 Tryz.f47:=⟨Tryz.func47,by kernel_rfl⟩
theorem XzM:Xae 48 Tryz.f48:=⟨Tryz.func48,by kernel_rfl⟩
theorem XzL:Xae 49 Tryz.f49:=⟨Tryz.func49,by kernel_rfl⟩
theorem XzK:Xae 50 Tryz.f50:=⟨Tryz.func50,by kernel_rfl⟩
theorem XzJ:Xae 51 Tryz.f51:=⟨Tryz.func51,by kernel_rfl⟩
theorem XzI:Xae 52 Tryz.f52:=⟨Tryz.func52,by kernel_rfl⟩
theorem XzH:Xae 53 Tryz.f53:=⟨Tryz.func53,by kernel_rfl⟩
theorem XzG:Xae 54 Tryz.f54:=⟨Tryz.func54,by kernel_rfl⟩
theorem XzF:Xae 55 Tryz.f55:=⟨Tryz.func55,by kernel_rfl⟩
theorem XzE:Xae 58 Tryz.f58:=⟨Tryz.func58,by kernel_rfl⟩
theorem XzD:Xae 59 Tryz.f59:=⟨Tryz.func59,by kernel_rfl⟩
theorem XzC:Xae 60 Tryz.f60:=⟨Tryz.func60,by kernel_rfl⟩
theorem XzB:Xae 61 Tryz.f61:=⟨Tryz.func61,by kernel_rfl⟩
theorem XzA:Xae 62 Tryz.f62:=⟨Tryz.func62,by kernel_rfl⟩
theorem Xzz:Xae 63 Tryz.f63:=⟨Tryz.func63,by kernel_rfl⟩
theorem Xzy:Xae 64 Tryz.f64:=⟨Tryz.func64,by kernel_rfl⟩
theorem Xzx:Xae 65 Tryz.f65:=⟨Tryz.func65,by kernel_rfl⟩
theorem Xzw:Xae 66 Tryz.f66:=⟨Tryz.func66,by kernel_rfl⟩
theorem Xzv:Xae 81 Tryz.f81:=⟨Tryz.func81,by kernel_rfl⟩
theorem Xzu:Xae 82 Tryz.f82:=⟨Tryz.func82,by kernel_rfl⟩
theorem Xzt:Xae 83 Tryz.f83:=⟨Tryz.func83,by kernel_rfl⟩
theorem Xzs:Xae 86 Tryz.f86:=⟨Tryz.func86,by kernel_rfl⟩
theorem Xzr:Xae 89 Tryz.f89:=⟨Tryz.func89,by kernel_rfl⟩
theorem Xzq:Xae 90 Tryz.f90:=⟨Tryz.func90,by kernel_rfl⟩
theorem Xzp:Xae 91 Tryz.f91:=⟨Tryz.func91,by kernel_rfl⟩
theorem Xzo:Xae 92 Tryz.f92:=⟨Tryz.func92,by kernel_rfl⟩
theorem Xzn:Xae 93 Tryz.f93:=⟨Tryz.func93,by kernel_rfl⟩
theorem Xzm:Xae 94 Tryz.f94:=⟨Tryz.func94,by kernel_rfl⟩
theorem Xzl:Xae 95 Tryz.f95:=⟨Tryz.func95,by kernel_rfl⟩
theorem Xzk:Xae 96 Tryz.f96:=⟨Tryz.func96,by kernel_rfl⟩
theorem Xzj:Xae 97 Tryz.f97:=⟨Tryz.func97,by kernel_rfl⟩
theorem Xwj:Xae 100 Tryz.f100:=⟨Tryz.func100,by kernel_rfl⟩
theorem Xwi:Xae 101 Tryz.f101:=⟨Tryz.func101,by kernel_rfl⟩
theorem Xwh:Xae 102 Tryz.f102:=⟨Tryz.func102,by kernel_rfl⟩
theorem Xwg:Xae 104 Tryz.f104:=⟨Tryz.func104,by kernel_rfl⟩
theorem Xwf:Xae 105 Tryz.f105:=⟨Tryz.func105,by kernel_rfl⟩
theorem Xwe:Xae 106 Tryz.f106:=⟨Tryz.func106,by kernel_rfl⟩
theorem Xwd:Xae 107 Tryz.f107:=⟨Tryz.func107,by kernel_rfl⟩
theorem Xwc:Xae 108 Tryz.f108:=⟨Tryz.func108,by kernel_rfl⟩
theorem Xwb:Xae 113 Tryz.f113:=⟨Tryz.func113,by kernel_rfl⟩
theorem Xwa:Xae 114 Tryz.f114:=⟨Tryz.func114,by kernel_rfl⟩
theorem Xv9:Xae 118 Tryz.f118:=⟨Tryz.func118,by kernel_rfl⟩
theorem Xv8:Xae 119 Tryz.f119:=⟨Tryz.func119,by kernel_rfl⟩
theorem Xv7:Xae 120 Tryz.f120:=⟨Tryz.func120,by kernel_rfl⟩
theorem Xv6:Xae 121 Tryz.f121:=⟨Tryz.func121,by kernel_rfl⟩
theorem Xv5:Xae 122 Tryz.f122:=⟨Tryz.func122,by kernel_rfl⟩
theorem Xv4:Xae 123 Tryz.f123:=⟨Tryz.func123,by kernel_rfl⟩
theorem Xv3:Xae 124 Tryz.f124:=⟨Tryz.func124,by kernel_rfl⟩
theorem Xv2:Xae 125 Tryz.f125:=⟨Tryz.func125,by kernel_rfl⟩
theorem Xv1:Xae 126 Tryz.f126:=⟨Tryz.func126,by kernel_rfl⟩
theorem Xv0:Xae 127 Tryz.f127:=⟨Tryz.func127,by kernel_rfl⟩
theorem XvZ:Xae 128 Tryz.f128:=⟨Tryz.func128,by kernel_rfl⟩
theorem XvY:Xae 129 Tryz.f129:=⟨Tryz.func129,by kernel_rfl⟩
theorem XvX:Xae 130 Tryz.f130:=⟨Tryz.func130,by kernel_rfl⟩
theorem XvW:Xae 131 Tryz.f131:=⟨Tryz.func131,by kernel_rfl⟩
theorem XvV:Xae 134 Tryz.f134:=⟨Tryz.func134,by kernel_rfl⟩
theorem XvU:Xae 141 Tryz.f141:=⟨Tryz.func141,by kernel_rfl⟩
theorem XvT:Xae 142 Tryz.f142:=⟨Tryz.func142,by kernel_rfl⟩
theorem XvS:Xae 143 Tryz.f143:=⟨Tryz.func143,by kernel_rfl⟩
theorem XvR:Xae 144 Tryz.f144:=⟨Tryz.func144,by kernel_rfl⟩
theorem XvQ:Xae 147 Tryz.f147:=⟨Tryz.func147,by kernel_rfl⟩
theorem XvP:Xae 148 Tryz.f148:=⟨Tryz.func148,by kernel_rfl⟩
theorem XvO:Xae 149 Tryz.f149:=⟨Tryz.func149,by kernel_rfl⟩
theorem XvN:Xae 150 Tryz.f150:=⟨Tryz.func150,by kernel_rfl⟩
theorem XvM:Xae 151 Tryz.f151:=⟨Tryz.func151,by kernel_rfl⟩
theorem XvL:Xae 153 Tryz.f153:=⟨Tryz.func153,by kernel_rfl⟩
theorem XvK:Xae 154 Tryz.f154:=⟨Tryz.func154,by kernel_rfl⟩
theorem XvJ:Xae 155 Tryz.f155:=⟨Tryz.func155,by kernel_rfl⟩
theorem XvI:Xae 156 Tryz.f156:=⟨Tryz.func156,by kernel_rfl⟩
theorem XvH:Xae 159 Tryz.f159:=⟨Tryz.func159,by kernel_rfl⟩
theorem XvG:Xae 160 Tryz.f160:=⟨Tryz.func160,by kernel_rfl⟩
theorem XvF:Xae 161 Tryz.f161:=⟨Tryz.func161,by kernel_rfl⟩
theorem XvE:Xae 162 Tryz.f162:=⟨Tryz.func162,by kernel_rfl⟩
theorem XvD:Xae 163 Tryz.f163:=⟨Tryz.func163,by kernel_rfl⟩
theorem XvC:Xae 180 Tryz.f180:=⟨Tryz.func180,by kernel_rfl⟩
theorem XvB:Xae 181 Tryz.f181:=⟨Tryz.func181,by kernel_rfl⟩
theorem XvA:Xae 183 Tryz.f183:=⟨Tryz.func183,by kernel_rfl⟩
theorem Xvz:Xae 184 Tryz.f184:=⟨Tryz.func184,by kernel_rfl⟩
theorem Xvy:Xae 185 Tryz.f185:=⟨Tryz.func185,by kernel_rfl⟩
theorem Xvx:Xae 186 Tryz.f186:=⟨Tryz.func186,by kernel_rfl⟩
theorem Xvw:Xae 190 Tryz.f190:=⟨Tryz.func190,by kernel_rfl⟩
theorem Xvv:Xae 191 Tryz.f191:=⟨Tryz.func191,by kernel_rfl⟩
theorem Xvu:Xae 193 Tryz.f193:=⟨Tryz.func193,by kernel_rfl⟩
theorem Xvt:Xae 194 Tryz.f194:=⟨Tryz.func194,by kernel_rfl⟩
theorem Xvs:Xae 204 Tryz.f204:=⟨Tryz.func204,by kernel_rfl⟩
theorem Xvr:Xae 205 Tryz.f205:=⟨Tryz.func205,by kernel_rfl⟩
theorem Xvq:Xae 206 Tryz.f206:=⟨Tryz.func206,by kernel_rfl⟩
theorem Xvp:Xae 218 Tryz.f218:=⟨Tryz.func218,by kernel_rfl⟩
theorem Xvo:Xae 227 Tryz.f227:=⟨Tryz.func227,by kernel_rfl⟩
theorem Xm2:XnQ.All Xb1 id:=⟨trivial,⟨trivial,⟨XBa,⟨trivial,⟨trivial,⟨trivial,⟨trivial,⟨Xt0,trivial,trivial⟩,trivial⟩,trivial⟩,⟨XxD,⟨Xxv,trivial,trivial⟩,⟨trivial,⟨XtV,trivial,trivial⟩,trivial⟩⟩⟩,⟨XxO,⟨XxI,⟨trivial,trivial,⟨XtQ,trivial,trivial⟩⟩,⟨Xua,trivial,trivial⟩⟩,⟨trivial,trivial,⟨Xt4,⟨XtT,trivial,trivial⟩,trivial⟩⟩⟩⟩,⟨trivial,⟨trivial,⟨trivial,⟨trivial,⟨trivial,⟨XtN,trivial,trivial⟩,trivial⟩,trivial⟩,trivial⟩,⟨XxA,trivial,⟨Xt6,⟨XtU,trivial,trivial⟩,trivial⟩⟩⟩,⟨trivial,⟨XxG,⟨trivial,trivial,⟨XtP,trivial,trivial⟩⟩,⟨Xt9,trivial,trivial⟩⟩,⟨trivial,trivial,⟨Xt1,⟨XtR,trivial,trivial⟩,trivial⟩⟩⟩⟩⟩,⟨XA8,⟨XA7,⟨trivial,trivial,⟨XxB,⟨Xxu,trivial,trivial⟩,⟨Xt8,trivial,trivial⟩⟩⟩,⟨trivial,⟨XxH,trivial,trivial⟩,⟨Xxx,trivial,⟨Xt2,trivial,trivial⟩⟩⟩⟩,⟨trivial,⟨trivial,⟨XxK,⟨trivial,⟨XtZ,trivial,trivial⟩,trivial⟩,⟨Xub,⟨trivial,⟨XtM,trivial,trivial⟩,trivial⟩,trivial⟩⟩,⟨Xxz,trivial,⟨Xt5,trivial,trivial⟩⟩⟩,⟨XxL,⟨trivial,⟨trivial,⟨XtX,trivial,trivial⟩,trivial⟩,trivial⟩,trivial⟩⟩⟩⟩,⟨trivial,⟨XA9,⟨trivial,⟨trivial,⟨trivial,trivial,⟨Xxr,trivial,trivial⟩⟩,⟨XxC,trivial,trivial⟩⟩,⟨XxN,trivial,⟨Xxy,⟨trivial,trivial,⟨XtO,trivial,trivial⟩⟩,⟨Xt3,⟨XtS,trivial,trivial⟩,trivial⟩⟩⟩⟩,⟨trivial,⟨trivial,⟨trivial,trivial,⟨Xuc,trivial,trivial⟩⟩,trivial⟩,⟨trivial,⟨XxF,trivial,⟨trivial,⟨trivial,⟨XtL,trivial,trivial⟩,trivial⟩,trivial⟩⟩,⟨trivial,⟨Xxt,trivial,trivial⟩,trivial⟩⟩⟩⟩,⟨trivial,⟨trivial,⟨trivial,trivial,⟨trivial,trivial,⟨Xt7,trivial,trivial⟩⟩⟩,⟨XxM,⟨trivial,⟨trivial,⟨XtY,trivial,trivial⟩,trivial⟩,⟨trivial,⟨XtW,trivial,trivial⟩,trivial⟩⟩,trivial⟩⟩,⟨trivial,⟨XxP,⟨XxJ,trivial,trivial⟩,trivial⟩,⟨trivial,⟨XxE,⟨Xxw,trivial,trivial⟩,⟨trivial,⟨trivial,⟨XtK,trivial,trivial⟩,trivial⟩,trivial⟩⟩,⟨trivial,⟨Xxs,trivial,trivial⟩,trivial⟩⟩⟩⟩⟩⟩
theorem XAb:Xwk.All Xae id:=⟨trivial,⟨trivial,⟨trivial,⟨XBv,⟨Xz7,⟨trivial,⟨Xzz,⟨Xv0,trivial,trivial⟩,⟨Xvv,trivial,trivial⟩⟩,⟨Xzl,⟨XvH,trivial,trivial⟩,trivial⟩⟩,⟨XzN,⟨trivial,⟨XvS,trivial,trivial⟩,trivial⟩,trivial⟩⟩,⟨Xz1,⟨XzU,trivial,trivial⟩,⟨XzF,⟨trivial,⟨XvM,trivial,trivial⟩,trivial⟩,⟨Xv8,⟨XvA,trivial,trivial⟩,trivial⟩⟩⟩⟩,⟨trivial,⟨Xz5,⟨trivial,⟨trivial,⟨XvW,trivial,trivial⟩,trivial⟩,⟨trivial,⟨XvD,trivial,trivial⟩,⟨Xvo,trivial,trivial⟩⟩⟩,⟨XzJ,⟨Xzt,⟨XvQ,trivial,trivial⟩,trivial⟩,trivial⟩⟩,⟨trivial,⟨XzQ,trivial,⟨Xwd,trivial,trivial⟩⟩,⟨XzD,⟨Xzp,⟨XvJ,trivial,trivial⟩,trivial⟩,⟨Xv4,trivial,trivial⟩⟩⟩⟩⟩,⟨XBw,⟨trivial,⟨trivial,⟨XzY,⟨Xzx,⟨XvY,trivial,trivial⟩,⟨Xvu,trivial,trivial⟩⟩,⟨Xzj,⟨XvF,trivial,trivial⟩,trivial⟩⟩,⟨XzL,⟨Xzv,trivial,trivial⟩,⟨Xwb,trivial,trivial⟩⟩⟩,⟨trivial,⟨XzS,trivial,⟨Xwf,trivial,trivial⟩⟩,⟨trivial,⟨Xzr,⟨XvL,trivial,trivial⟩,trivial⟩,⟨Xv6,⟨Xvy,trivial,trivial⟩,trivial⟩⟩⟩⟩,⟨Xz9,⟨Xz3,⟨XzW,trivial,⟨Xwi,trivial,trivial⟩⟩,⟨XzH,⟨trivial,⟨XvO,trivial,trivial⟩,trivial⟩,⟨trivial,⟨XvB,trivial,trivial⟩,trivial⟩⟩⟩,⟨trivial,⟨XzP,⟨trivial,⟨XvU,trivial,trivial⟩,⟨Xvr,trivial,trivial⟩⟩,trivial⟩,⟨XzB,⟨Xzn,trivial,trivial⟩,⟨Xv2,trivial,trivial⟩⟩⟩⟩⟩⟩,⟨trivial,⟨trivial,⟨trivial,⟨trivial,⟨XzZ,⟨Xzy,⟨XvZ,trivial,trivial⟩,trivial⟩,⟨Xzk,⟨XvG,trivial,trivial⟩,trivial⟩⟩,⟨XzM,⟨trivial,⟨XvR,trivial,trivial⟩,trivial⟩,trivial⟩⟩,⟨trivial,⟨XzT,trivial,⟨Xwg,trivial,trivial⟩⟩,⟨trivial,trivial,⟨Xv7,⟨Xvz,trivial,trivial⟩,trivial⟩⟩⟩⟩,⟨trivial,⟨Xz4,⟨XzX,trivial,⟨Xwj,trivial,trivial⟩⟩,⟨XzI,⟨trivial,⟨XvP,trivial,trivial⟩,trivial⟩,⟨trivial,⟨XvC,trivial,trivial⟩,trivial⟩⟩⟩,⟨Xz0,⟨trivial,⟨trivial,trivial,⟨Xvs,trivial,trivial⟩⟩,⟨Xwc,trivial,trivial⟩⟩,⟨XzC,⟨Xzo,⟨XvI,trivial,trivial⟩,trivial⟩,⟨Xv3,trivial,trivial⟩⟩⟩⟩⟩,⟨trivial,⟨XAa,⟨Xz6,⟨trivial,⟨Xzw,⟨XvX,trivial,trivial⟩,⟨Xvt,trivial,trivial⟩⟩,⟨trivial,⟨XvE,trivial,trivial⟩,trivial⟩⟩,⟨XzK,⟨Xzu,trivial,trivial⟩,⟨Xwa,trivial,trivial⟩⟩⟩,⟨trivial,⟨XzR,trivial,⟨Xwe,trivial,trivial⟩⟩,⟨XzE,⟨Xzq,⟨XvK,trivial,trivial⟩,⟨Xvp,trivial,trivial⟩⟩,⟨Xv5,⟨Xvx,trivial,trivial⟩,trivial⟩⟩⟩⟩,⟨Xz8,⟨Xz2,⟨XzV,⟨trivial,⟨XvV,trivial,trivial⟩,trivial⟩,⟨Xwh,trivial,trivial⟩⟩,⟨XzG,⟨Xzs,⟨XvN,trivial,trivial⟩,trivial⟩,⟨Xv9,trivial,trivial⟩⟩⟩,⟨trivial,⟨XzO,⟨trivial,⟨XvT,trivial,trivial⟩,⟨Xvq,trivial,trivial⟩⟩,trivial⟩,⟨XzA,⟨Xzm,trivial,trivial⟩,⟨Xv1,⟨Xvw,trivial,trivial⟩,trivial⟩⟩⟩⟩⟩⟩⟩
theorem XyK:Tryz.prog.follows .mixedOrders=true:=by kernel_rfl
theorem Xyj:tab.Ok:=⟨fun t i h=>⟨(BT.all_get XnQ id t i Xm2 h).1,(BT.all_get XnQ id t i Xm2 h).2.1,(BT.all_get XnQ id t i Xm2 h).2.2.1⟩,fun f fn h=>BT.all_get Xwk id f fn XAb h,XyK,fun t i h=>(BT.all_get XnQ id t i Xm2 h).2.2.2,fun g hg v w=>by have hg:=Nat.eq_of_beq_eq_true hg;subst hg;show (callFunc 189 #[v]).run Tryz.prog w=_;rw [run_callFunc_extern Tryz.func189 (by kernel_rfl) (by kernel_rfl) (by kernel_rfl) (e:=Extern.AbiNoEscape.same) (by kernel_rfl)];rfl⟩
end Go.Proofs.YtlcphjcpoinolaaGreat
namespace Go.Proofs.YtlcphjcpoinolaaGreat
open Go Go.Ev Go.Proofs Go.RowKit
noncomputable def XlQ:Option (PV × St):=(evN tab 3000).call 5 [] ⟨⟨0,.leaf⟩,[]⟩
noncomputable def Xtm:Option (PV × St)→Bool
  | some (.v (.bool b),_)=>b
  | _=>false
theorem Xks:Xtm XlQ=true:=by kernel_rfl
theorem Xoe:∃ s,XlQ=some (.v (.bool true),s):=by
  have h:=Xks
  generalize XlQ=k at h
  unfold Xtm at h
  split at h
  · exact ⟨_,by rw [h]⟩
  · cases h
theorem Xi5 (w:World):Calls Tryz.prog 5 #[] w fun e w'=>e=.returned (.bool true)∧Below w.heap.size w w':=by
  obtain ⟨s,h⟩:=Xoe
  exact Xk5 Xyj h w
end Go.Proofs.YtlcphjcpoinolaaGreat
