/- Part of the proof: the walk over the program and its laws: ThInst Fr. -/
import Derived.Test.YtlcphjcpoinolaaGreatProg
import Derived.KernelRfl
import Derived.WalkKit
import Derived.ProofKit
import Derived.OpenShut
import Derived.Below
import Derived.ChangeSame
import Derived.ShutString
import Derived.Deep.Slices
import Derived.Deep.Fields
import Derived.Test.YtlcphjcpoinolaaGreatRows
import Derived.Test.YtlcphjcpoinolaaGreatP0
import Derived.Test.YtlcphjcpoinolaaGreatP3
set_option linter.unusedVariables false
namespace Go.Proofs.YtlcphjcpoinolaaGreat
open Go.Th
theorem mixed:Tryz.prog.follows .mixedOrders=true:=by kernel_rfl
instance:HasU Tryz.prog 3 (.int .i64):=HasU.mk Tryz.underlying3
theorem Xzc:(Tryz.prog.info? 3).map (fun i=>(i.zero,i.size,i.bytes))=some (some ((.int .i64 0)),1,8):=by kernel_rfl
instance:HasI Tryz.prog 3 1 8 [(.int .i64 0)]:=HasI.mk_of Xzc rfl
instance:HasZ Tryz.prog 3 ((.int .i64 0)):=HasZ.mk_of Xzc
instance:HasU Tryz.prog 4 (.bool):=HasU.mk Tryz.underlying4
theorem Xy8:(Tryz.prog.info? 4).map (fun i=>(i.zero,i.size,i.bytes))=some (some ((.bool false)),1,1):=by kernel_rfl
instance:HasI Tryz.prog 4 1 1 [(.bool false)]:=HasI.mk_of Xy8 rfl
instance:HasZ Tryz.prog 4 ((.bool false)):=HasZ.mk_of Xy8
instance:HasU Tryz.prog 5 (.int .u8):=HasU.mk Tryz.underlying5
theorem XBt:(Tryz.prog.info? 5).map (fun i=>(i.zero,i.size,i.bytes))=some (some ((.int .u8 0)),1,1):=by kernel_rfl
instance:HasI Tryz.prog 5 1 1 [(.int .u8 0)]:=HasI.mk_of XBt rfl
instance:HasU Tryz.prog 9 (.string):=HasU.mk Tryz.underlying9
theorem XBs:(Tryz.prog.info? 9).map (fun i=>(i.zero,i.size,i.bytes))=some (some ((.string .empty)),1,16):=by kernel_rfl
instance:HasI Tryz.prog 9 1 16 [(.string .empty)]:=HasI.mk_of XBs rfl
instance:HasU Tryz.prog 21 (.int .i32):=HasU.mk Tryz.underlying21
instance:HasU Tryz.prog 22 (.slice 46):=HasU.mk Tryz.underlying22
theorem Xzh:(Tryz.prog.info? 22).map (fun i=>(i.zero,i.size,i.bytes))=some (some ((.slice none 0 0)),1,24):=by kernel_rfl
instance:HasI Tryz.prog 22 1 24 [(.slice none 0 0)]:=HasI.mk_of Xzh rfl
instance:HasU Tryz.prog 23 (.slice 100):=HasU.mk Tryz.underlying23
theorem Xzg:(Tryz.prog.info? 23).map (fun i=>(i.zero,i.size,i.bytes))=some (some ((.slice none 0 0)),1,24):=by kernel_rfl
instance:HasI Tryz.prog 23 1 24 [(.slice none 0 0)]:=HasI.mk_of Xzg rfl
instance:HasU Tryz.prog 24 (.slice 103):=HasU.mk Tryz.underlying24
theorem Xzf:(Tryz.prog.info? 24).map (fun i=>(i.zero,i.size,i.bytes))=some (some ((.slice none 0 0)),1,24):=by kernel_rfl
instance:HasI Tryz.prog 24 1 24 [(.slice none 0 0)]:=HasI.mk_of Xzf rfl
instance:HasU Tryz.prog 26 (.struct #[{ name:= "Items",type:=22,offset:=0,embedded:=false,tag:= "",pkgPath:= "",byteOffset:=0 },{ name:= "Styles",type:=23,offset:=1,embedded:=false,tag:= "",pkgPath:= "",byteOffset:=24 },{ name:= "Lists",type:=24,offset:=2,embedded:=false,tag:= "",pkgPath:= "",byteOffset:=48 }]):=HasU.mk Tryz.underlying26
theorem Xze:(Tryz.prog.info? 26).map (fun i=>(i.zero,i.size,i.bytes))=some (some (.agg #[(.slice none 0 0),(.slice none 0 0),(.slice none 0 0)]),3,72):=by kernel_rfl
instance:HasI Tryz.prog 26 3 72 [(.slice none 0 0),(.slice none 0 0),(.slice none 0 0)]:=HasI.mk_of Xze rfl
instance:HasB Tryz.prog 26 [(0,1),(1,1),(2,1)]:=⟨_,Tryz.underlying26,by kernel_rfl⟩
instance:HasU Tryz.prog 29 (.int .i64):=HasU.mk Tryz.underlying29
theorem Xzd:(Tryz.prog.info? 29).map (fun i=>(i.zero,i.size,i.bytes))=some (some ((.int .i64 0)),1,8):=by kernel_rfl
instance:HasI Tryz.prog 29 1 8 [(.int .i64 0)]:=HasI.mk_of Xzd rfl
instance:HasU Tryz.prog 37 (.slice 183):=HasU.mk Tryz.underlying37
theorem Xzb:(Tryz.prog.info? 37).map (fun i=>(i.zero,i.size,i.bytes))=some (some ((.slice none 0 0)),1,24):=by kernel_rfl
instance:HasI Tryz.prog 37 1 24 [(.slice none 0 0)]:=HasI.mk_of Xzb rfl
instance:HasU Tryz.prog 38 (.slice 199):=HasU.mk Tryz.underlying38
theorem Xza:(Tryz.prog.info? 38).map (fun i=>(i.zero,i.size,i.bytes))=some (some ((.slice none 0 0)),1,24):=by kernel_rfl
instance:HasI Tryz.prog 38 1 24 [(.slice none 0 0)]:=HasI.mk_of Xza rfl
instance:HasU Tryz.prog 39 (.slice 203):=HasU.mk Tryz.underlying39
theorem Xy9:(Tryz.prog.info? 39).map (fun i=>(i.zero,i.size,i.bytes))=some (some ((.slice none 0 0)),1,24):=by kernel_rfl
instance:HasI Tryz.prog 39 1 24 [(.slice none 0 0)]:=HasI.mk_of Xy9 rfl
instance:HasU Tryz.prog 41 (.struct #[{ name:= "Ins",type:=3,offset:=0,embedded:=false,tag:= "",pkgPath:= "",byteOffset:=0 },{ name:= "Move",type:=3,offset:=1,embedded:=false,tag:= "",pkgPath:= "",byteOffset:=8 },{ name:= "Dels",type:=38,offset:=2,embedded:=false,tag:= "",pkgPath:= "",byteOffset:=16 },{ name:= "Layers",type:=39,offset:=3,embedded:=false,tag:= "",pkgPath:= "",byteOffset:=40 }]):=HasU.mk Tryz.underlying41
theorem Xy7:(Tryz.prog.info? 41).map (fun i=>(i.zero,i.size,i.bytes))=some (some (.agg #[(.int .i64 0),(.int .i64 0),(.slice none 0 0),(.slice none 0 0)]),4,64):=by kernel_rfl
instance:HasI Tryz.prog 41 4 64 [(.int .i64 0),(.int .i64 0),(.slice none 0 0),(.slice none 0 0)]:=HasI.mk_of Xy7 rfl
instance:HasB Tryz.prog 41 [(0,1),(1,1),(2,1),(3,1)]:=⟨_,Tryz.underlying41,by kernel_rfl⟩
instance:HasU Tryz.prog 43 (.struct #[{ name:= "Props",type:=37,offset:=0,embedded:=false,tag:= "",pkgPath:= "",byteOffset:=0 },{ name:= "Marks",type:=41,offset:=1,embedded:=false,tag:= "",pkgPath:= "",byteOffset:=24 }]):=HasU.mk Tryz.underlying43
theorem Xy6:(Tryz.prog.info? 43).map (fun i=>(i.zero,i.size,i.bytes))=some (some (.agg #[(.slice none 0 0),(.int .i64 0),(.int .i64 0),(.slice none 0 0),(.slice none 0 0)]),5,88):=by kernel_rfl
instance:HasI Tryz.prog 43 5 88 [(.slice none 0 0),(.int .i64 0),(.int .i64 0),(.slice none 0 0),(.slice none 0 0)]:=HasI.mk_of Xy6 rfl
instance:HasB Tryz.prog 43 [(0,1),(1,4)]:=⟨_,Tryz.underlying43,by kernel_rfl⟩
instance:HasU Tryz.prog 44 (.slice 94):=HasU.mk Tryz.underlying44
theorem Xy5:(Tryz.prog.info? 44).map (fun i=>(i.zero,i.size,i.bytes))=some (some ((.slice none 0 0)),1,24):=by kernel_rfl
instance:HasI Tryz.prog 44 1 24 [(.slice none 0 0)]:=HasI.mk_of Xy5 rfl
instance:HasU Tryz.prog 46 (.struct #[{ name:= "Kind",type:=3,offset:=0,embedded:=false,tag:= "",pkgPath:= "",byteOffset:=0 },{ name:= "Code",type:=3,offset:=1,embedded:=false,tag:= "",pkgPath:= "",byteOffset:=8 },{ name:= "Id",type:=3,offset:=2,embedded:=false,tag:= "",pkgPath:= "",byteOffset:=16 },{ name:= "Text",type:=9,offset:=3,embedded:=false,tag:= "",pkgPath:= "",byteOffset:=24 },{ name:= "Head",type:=43,offset:=4,embedded:=false,tag:= "",pkgPath:= "",byteOffset:=40 },{ name:= "Flow",type:=22,offset:=9,embedded:=false,tag:= "",pkgPath:= "",byteOffset:=128 },{ name:= "Rows",type:=44,offset:=10,embedded:=false,tag:= "",pkgPath:= "",byteOffset:=152 }]):=HasU.mk Tryz.underlying46
theorem Xy4:(Tryz.prog.info? 46).map (fun i=>(i.zero,i.size,i.bytes))=some (some (.agg #[(.int .i64 0),(.int .i64 0),(.int .i64 0),(.string .empty),(.slice none 0 0),(.int .i64 0),(.int .i64 0),(.slice none 0 0),(.slice none 0 0),(.slice none 0 0),(.slice none 0 0)]),11,176):=by kernel_rfl
instance:HasI Tryz.prog 46 11 176 [(.int .i64 0),(.int .i64 0),(.int .i64 0),(.string .empty),(.slice none 0 0),(.int .i64 0),(.int .i64 0),(.slice none 0 0),(.slice none 0 0),(.slice none 0 0),(.slice none 0 0)]:=HasI.mk_of Xy4 rfl
instance:HasB Tryz.prog 46 [(0,1),(1,1),(2,1),(3,1),(4,5),(9,1),(10,1)]:=⟨_,Tryz.underlying46,by kernel_rfl⟩
instance:HasU Tryz.prog 47 (.slice 133):=HasU.mk Tryz.underlying47
theorem Xy3:(Tryz.prog.info? 47).map (fun i=>(i.zero,i.size,i.bytes))=some (some ((.slice none 0 0)),1,24):=by kernel_rfl
instance:HasI Tryz.prog 47 1 24 [(.slice none 0 0)]:=HasI.mk_of Xy3 rfl
instance:HasU Tryz.prog 48 (.slice 138):=HasU.mk Tryz.underlying48
theorem Xy2:(Tryz.prog.info? 48).map (fun i=>(i.zero,i.size,i.bytes))=some (some ((.slice none 0 0)),1,24):=by kernel_rfl
instance:HasI Tryz.prog 48 1 24 [(.slice none 0 0)]:=HasI.mk_of Xy2 rfl
instance:HasU Tryz.prog 49 (.slice 141):=HasU.mk Tryz.underlying49
theorem Xy1:(Tryz.prog.info? 49).map (fun i=>(i.zero,i.size,i.bytes))=some (some ((.slice none 0 0)),1,24):=by kernel_rfl
instance:HasI Tryz.prog 49 1 24 [(.slice none 0 0)]:=HasI.mk_of Xy1 rfl
instance:HasU Tryz.prog 51 (.struct #[{ name:= "Styles",type:=23,offset:=0,embedded:=false,tag:= "",pkgPath:= "",byteOffset:=0 },{ name:= "Lists",type:=24,offset:=1,embedded:=false,tag:= "",pkgPath:= "",byteOffset:=24 },{ name:= "Comments",type:=48,offset:=2,embedded:=false,tag:= "",pkgPath:= "",byteOffset:=48 },{ name:= "Vars",type:=49,offset:=3,embedded:=false,tag:= "",pkgPath:= "",byteOffset:=72 }]):=HasU.mk Tryz.underlying51
theorem Xy0:(Tryz.prog.info? 51).map (fun i=>(i.zero,i.size,i.bytes))=some (some (.agg #[(.slice none 0 0),(.slice none 0 0),(.slice none 0 0),(.slice none 0 0)]),4,96):=by kernel_rfl
instance:HasI Tryz.prog 51 4 96 [(.slice none 0 0),(.slice none 0 0),(.slice none 0 0),(.slice none 0 0)]:=HasI.mk_of Xy0 rfl
instance:HasB Tryz.prog 51 [(0,1),(1,1),(2,1),(3,1)]:=⟨_,Tryz.underlying51,by kernel_rfl⟩
instance:HasU Tryz.prog 53 (.struct #[{ name:= "Flow",type:=22,offset:=0,embedded:=false,tag:= "",pkgPath:= "",byteOffset:=0 },{ name:= "End",type:=43,offset:=1,embedded:=false,tag:= "",pkgPath:= "",byteOffset:=24 },{ name:= "Revs",type:=47,offset:=6,embedded:=false,tag:= "",pkgPath:= "",byteOffset:=112 },{ name:= "Settings",type:=51,offset:=7,embedded:=false,tag:= "",pkgPath:= "",byteOffset:=136 }]):=HasU.mk Tryz.underlying53
theorem XyZ:(Tryz.prog.info? 53).map (fun i=>(i.zero,i.size,i.bytes))=some (some (.agg #[(.slice none 0 0),(.slice none 0 0),(.int .i64 0),(.int .i64 0),(.slice none 0 0),(.slice none 0 0),(.slice none 0 0),(.slice none 0 0),(.slice none 0 0),(.slice none 0 0),(.slice none 0 0)]),11,232):=by kernel_rfl
instance:HasI Tryz.prog 53 11 232 [(.slice none 0 0),(.slice none 0 0),(.int .i64 0),(.int .i64 0),(.slice none 0 0),(.slice none 0 0),(.slice none 0 0),(.slice none 0 0),(.slice none 0 0),(.slice none 0 0),(.slice none 0 0)]:=HasI.mk_of XyZ rfl
instance:HasB Tryz.prog 53 [(0,1),(1,5),(6,1),(7,4)]:=⟨_,Tryz.underlying53,by kernel_rfl⟩
instance:HasU Tryz.prog 57 (.slice 3):=HasU.mk Tryz.underlying57
theorem XyY:(Tryz.prog.info? 57).map (fun i=>(i.zero,i.size,i.bytes))=some (some ((.slice none 0 0)),1,24):=by kernel_rfl
instance:HasI Tryz.prog 57 1 24 [(.slice none 0 0)]:=HasI.mk_of XyY rfl
instance:HasU Tryz.prog 78 (.pointer 81):=HasU.mk Tryz.underlying78
theorem XyX:(Tryz.prog.info? 78).map (fun i=>(i.zero,i.size,i.bytes))=some (some ((.pointer none)),1,8):=by kernel_rfl
instance:HasI Tryz.prog 78 1 8 [(.pointer none)]:=HasI.mk_of XyX rfl
instance:HasU Tryz.prog 79 (.slice 5):=HasU.mk Tryz.underlying79
theorem XyW:(Tryz.prog.info? 79).map (fun i=>(i.zero,i.size,i.bytes))=some (some ((.slice none 0 0)),1,24):=by kernel_rfl
instance:HasI Tryz.prog 79 1 24 [(.slice none 0 0)]:=HasI.mk_of XyW rfl
theorem XyV:(Tryz.prog.info? 81).map (fun i=>(i.zero,i.size,i.bytes))=some (some (.agg #[(.pointer none),(.slice none 0 0)]),2,32):=by kernel_rfl
instance:HasI Tryz.prog 81 2 32 [(.pointer none),(.slice none 0 0)]:=HasI.mk_of XyV rfl
instance:HasB Tryz.prog 81 [(0,1),(1,1)]:=⟨_,Tryz.underlying81,by kernel_rfl⟩
instance:HasU Tryz.prog 92 (.slice 96):=HasU.mk Tryz.underlying92
theorem XyU:(Tryz.prog.info? 92).map (fun i=>(i.zero,i.size,i.bytes))=some (some ((.slice none 0 0)),1,24):=by kernel_rfl
instance:HasI Tryz.prog 92 1 24 [(.slice none 0 0)]:=HasI.mk_of XyU rfl
instance:HasU Tryz.prog 94 (.struct #[{ name:= "Head",type:=43,offset:=0,embedded:=false,tag:= "",pkgPath:= "",byteOffset:=0 },{ name:= "Cells",type:=92,offset:=5,embedded:=false,tag:= "",pkgPath:= "",byteOffset:=88 }]):=HasU.mk Tryz.underlying94
theorem XyT:(Tryz.prog.info? 94).map (fun i=>(i.zero,i.size,i.bytes))=some (some (.agg #[(.slice none 0 0),(.int .i64 0),(.int .i64 0),(.slice none 0 0),(.slice none 0 0),(.slice none 0 0)]),6,112):=by kernel_rfl
instance:HasI Tryz.prog 94 6 112 [(.slice none 0 0),(.int .i64 0),(.int .i64 0),(.slice none 0 0),(.slice none 0 0),(.slice none 0 0)]:=HasI.mk_of XyT rfl
instance:HasB Tryz.prog 94 [(0,5),(5,1)]:=⟨_,Tryz.underlying94,by kernel_rfl⟩
instance:HasU Tryz.prog 96 (.struct #[{ name:= "Id",type:=3,offset:=0,embedded:=false,tag:= "",pkgPath:= "",byteOffset:=0 },{ name:= "Head",type:=43,offset:=1,embedded:=false,tag:= "",pkgPath:= "",byteOffset:=8 },{ name:= "Flow",type:=22,offset:=6,embedded:=false,tag:= "",pkgPath:= "",byteOffset:=96 }]):=HasU.mk Tryz.underlying96
theorem XyS:(Tryz.prog.info? 96).map (fun i=>(i.zero,i.size,i.bytes))=some (some (.agg #[(.int .i64 0),(.slice none 0 0),(.int .i64 0),(.int .i64 0),(.slice none 0 0),(.slice none 0 0),(.slice none 0 0)]),7,120):=by kernel_rfl
instance:HasI Tryz.prog 96 7 120 [(.int .i64 0),(.slice none 0 0),(.int .i64 0),(.int .i64 0),(.slice none 0 0),(.slice none 0 0),(.slice none 0 0)]:=HasI.mk_of XyS rfl
instance:HasB Tryz.prog 96 [(0,1),(1,5),(6,1)]:=⟨_,Tryz.underlying96,by kernel_rfl⟩
instance:HasU Tryz.prog 100 (.struct #[{ name:= "Id",type:=3,offset:=0,embedded:=false,tag:= "",pkgPath:= "",byteOffset:=0 },{ name:= "Kind",type:=3,offset:=1,embedded:=false,tag:= "",pkgPath:= "",byteOffset:=8 },{ name:= "Name",type:=9,offset:=2,embedded:=false,tag:= "",pkgPath:= "",byteOffset:=16 },{ name:= "Base",type:=3,offset:=3,embedded:=false,tag:= "",pkgPath:= "",byteOffset:=32 },{ name:= "Next",type:=3,offset:=4,embedded:=false,tag:= "",pkgPath:= "",byteOffset:=40 },{ name:= "Props",type:=37,offset:=5,embedded:=false,tag:= "",pkgPath:= "",byteOffset:=48 }]):=HasU.mk Tryz.underlying100
theorem Xvg:(Tryz.prog.info? 100).map (fun i=>(i.zero,i.size,i.bytes))=some (some (.agg #[(.int .i64 0),(.int .i64 0),(.string .empty),(.int .i64 0),(.int .i64 0),(.slice none 0 0)]),6,72):=by kernel_rfl
instance:HasI Tryz.prog 100 6 72 [(.int .i64 0),(.int .i64 0),(.string .empty),(.int .i64 0),(.int .i64 0),(.slice none 0 0)]:=HasI.mk_of Xvg rfl
instance:HasB Tryz.prog 100 [(0,1),(1,1),(2,1),(3,1),(4,1),(5,1)]:=⟨_,Tryz.underlying100,by kernel_rfl⟩
instance:HasU Tryz.prog 101 (.slice 127):=HasU.mk Tryz.underlying101
theorem Xvf:(Tryz.prog.info? 101).map (fun i=>(i.zero,i.size,i.bytes))=some (some ((.slice none 0 0)),1,24):=by kernel_rfl
instance:HasI Tryz.prog 101 1 24 [(.slice none 0 0)]:=HasI.mk_of Xvf rfl
instance:HasU Tryz.prog 103 (.struct #[{ name:= "Id",type:=3,offset:=0,embedded:=false,tag:= "",pkgPath:= "",byteOffset:=0 },{ name:= "Levels",type:=101,offset:=1,embedded:=false,tag:= "",pkgPath:= "",byteOffset:=8 }]):=HasU.mk Tryz.underlying103
theorem Xve:(Tryz.prog.info? 103).map (fun i=>(i.zero,i.size,i.bytes))=some (some (.agg #[(.int .i64 0),(.slice none 0 0)]),2,32):=by kernel_rfl
instance:HasI Tryz.prog 103 2 32 [(.int .i64 0),(.slice none 0 0)]:=HasI.mk_of Xve rfl
instance:HasB Tryz.prog 103 [(0,1),(1,1)]:=⟨_,Tryz.underlying103,by kernel_rfl⟩
instance:HasU Tryz.prog 107 (.pointer 117):=HasU.mk Tryz.underlying107
theorem Xvd:(Tryz.prog.info? 107).map (fun i=>(i.zero,i.size,i.bytes))=some (some ((.pointer none)),1,8):=by kernel_rfl
instance:HasI Tryz.prog 107 1 8 [(.pointer none)]:=HasI.mk_of Xvd rfl
instance:HasU Tryz.prog 113 (.struct #[{ name:= "body",type:=4,offset:=0,embedded:=false,tag:= "",pkgPath:= "obelus/document",byteOffset:=0 },{ name:= "note",type:=4,offset:=1,embedded:=false,tag:= "",pkgPath:= "obelus/document",byteOffset:=1 },{ name:= "tables",type:=3,offset:=2,embedded:=false,tag:= "",pkgPath:= "obelus/document",byteOffset:=8 }]):=HasU.mk Tryz.underlying113
theorem Xvc:(Tryz.prog.info? 113).map (fun i=>(i.zero,i.size,i.bytes))=some (some (.agg #[(.bool false),(.bool false),(.int .i64 0)]),3,16):=by kernel_rfl
instance:HasI Tryz.prog 113 3 16 [(.bool false),(.bool false),(.int .i64 0)]:=HasI.mk_of Xvc rfl
instance:HasB Tryz.prog 113 [(0,1),(1,1),(2,1)]:=⟨_,Tryz.underlying113,by kernel_rfl⟩
instance:HasU Tryz.prog 114 (.map 3 3):=HasU.mk Tryz.underlying114
theorem Xvb:(Tryz.prog.info? 114).map (fun i=>(i.zero,i.size,i.bytes))=some (some ((.map none)),1,8):=by kernel_rfl
instance:HasI Tryz.prog 114 1 8 [(.map none)]:=HasI.mk_of Xvb rfl
instance:HasU Tryz.prog 115 (.map 3 4):=HasU.mk Tryz.underlying115
theorem Xva:(Tryz.prog.info? 115).map (fun i=>(i.zero,i.size,i.bytes))=some (some ((.map none)),1,8):=by kernel_rfl
instance:HasI Tryz.prog 115 1 8 [(.map none)]:=HasI.mk_of Xva rfl
theorem Xu9:(Tryz.prog.info? 117).map (fun i=>(i.zero,i.size,i.bytes))=some (some (.agg #[(.map none),(.map none),(.map none),(.map none),(.map none),(.int .i64 0)]),6,48):=by kernel_rfl
instance:HasI Tryz.prog 117 6 48 [(.map none),(.map none),(.map none),(.map none),(.map none),(.int .i64 0)]:=HasI.mk_of Xu9 rfl
instance:HasB Tryz.prog 117 [(0,1),(1,1),(2,1),(3,1),(4,1),(5,1)]:=⟨_,Tryz.underlying117,by kernel_rfl⟩
instance:HasU Tryz.prog 123 (.struct #[{ name:= "head",type:=119,offset:=0,embedded:=false,tag:= "",pkgPath:= "obelus/fragment",byteOffset:=0 },{ name:= "keep",type:=120,offset:=1,embedded:=false,tag:= "",pkgPath:= "obelus/fragment",byteOffset:=8 },{ name:= "id",type:=121,offset:=2,embedded:=false,tag:= "",pkgPath:= "obelus/fragment",byteOffset:=16 }]):=HasU.mk Tryz.underlying123
theorem Xu5:(Tryz.prog.info? 123).map (fun i=>(i.zero,i.size,i.bytes))=some (some (.agg #[.nilFunc,.nilFunc,.nilFunc]),3,24):=by kernel_rfl
instance:HasI Tryz.prog 123 3 24 [.nilFunc,.nilFunc,.nilFunc]:=HasI.mk_of Xu5 rfl
instance:HasB Tryz.prog 123 [(0,1),(1,1),(2,1)]:=⟨_,Tryz.underlying123,by kernel_rfl⟩
instance:HasU Tryz.prog 127 (.struct #[{ name:= "Format",type:=3,offset:=0,embedded:=false,tag:= "",pkgPath:= "",byteOffset:=0 },{ name:= "Start",type:=3,offset:=1,embedded:=false,tag:= "",pkgPath:= "",byteOffset:=8 },{ name:= "Template",type:=9,offset:=2,embedded:=false,tag:= "",pkgPath:= "",byteOffset:=16 },{ name:= "Restart",type:=3,offset:=3,embedded:=false,tag:= "",pkgPath:= "",byteOffset:=32 }]):=HasU.mk Tryz.underlying127
theorem Xu4:(Tryz.prog.info? 127).map (fun i=>(i.zero,i.size,i.bytes))=some (some (.agg #[(.int .i64 0),(.int .i64 0),(.string .empty),(.int .i64 0)]),4,40):=by kernel_rfl
instance:HasI Tryz.prog 127 4 40 [(.int .i64 0),(.int .i64 0),(.string .empty),(.int .i64 0)]:=HasI.mk_of Xu4 rfl
instance:HasU Tryz.prog 133 (.struct #[{ name:= "Id",type:=3,offset:=0,embedded:=false,tag:= "",pkgPath:= "",byteOffset:=0 },{ name:= "Author",type:=9,offset:=1,embedded:=false,tag:= "",pkgPath:= "",byteOffset:=8 },{ name:= "Time",type:=3,offset:=2,embedded:=false,tag:= "",pkgPath:= "",byteOffset:=24 }]):=HasU.mk Tryz.underlying133
theorem Xu3:(Tryz.prog.info? 133).map (fun i=>(i.zero,i.size,i.bytes))=some (some (.agg #[(.int .i64 0),(.string .empty),(.int .i64 0)]),3,32):=by kernel_rfl
instance:HasI Tryz.prog 133 3 32 [(.int .i64 0),(.string .empty),(.int .i64 0)]:=HasI.mk_of Xu3 rfl
instance:HasB Tryz.prog 133 [(0,1),(1,1),(2,1)]:=⟨_,Tryz.underlying133,by kernel_rfl⟩
instance:HasU Tryz.prog 138 (.struct #[{ name:= "Id",type:=3,offset:=0,embedded:=false,tag:= "",pkgPath:= "",byteOffset:=0 },{ name:= "Parent",type:=3,offset:=1,embedded:=false,tag:= "",pkgPath:= "",byteOffset:=8 },{ name:= "Author",type:=9,offset:=2,embedded:=false,tag:= "",pkgPath:= "",byteOffset:=16 },{ name:= "Time",type:=3,offset:=3,embedded:=false,tag:= "",pkgPath:= "",byteOffset:=32 },{ name:= "Text",type:=9,offset:=4,embedded:=false,tag:= "",pkgPath:= "",byteOffset:=40 },{ name:= "Done",type:=4,offset:=5,embedded:=false,tag:= "",pkgPath:= "",byteOffset:=56 }]):=HasU.mk Tryz.underlying138
theorem Xu2:(Tryz.prog.info? 138).map (fun i=>(i.zero,i.size,i.bytes))=some (some (.agg #[(.int .i64 0),(.int .i64 0),(.string .empty),(.int .i64 0),(.string .empty),(.bool false)]),6,64):=by kernel_rfl
instance:HasI Tryz.prog 138 6 64 [(.int .i64 0),(.int .i64 0),(.string .empty),(.int .i64 0),(.string .empty),(.bool false)]:=HasI.mk_of Xu2 rfl
instance:HasU Tryz.prog 141 (.struct #[{ name:= "Name",type:=9,offset:=0,embedded:=false,tag:= "",pkgPath:= "",byteOffset:=0 },{ name:= "Value",type:=9,offset:=1,embedded:=false,tag:= "",pkgPath:= "",byteOffset:=16 }]):=HasU.mk Tryz.underlying141
theorem Xu1:(Tryz.prog.info? 141).map (fun i=>(i.zero,i.size,i.bytes))=some (some (.agg #[(.string .empty),(.string .empty)]),2,32):=by kernel_rfl
instance:HasI Tryz.prog 141 2 32 [(.string .empty),(.string .empty)]:=HasI.mk_of Xu1 rfl
instance:HasU Tryz.prog 154 (.array 256 4):=HasU.mk Tryz.underlying154
instance:HasU Tryz.prog 170 (.pointer 5):=HasU.mk Tryz.underlying170
instance:HasU Tryz.prog 183 (.struct #[{ name:= "Key",type:=3,offset:=0,embedded:=false,tag:= "",pkgPath:= "",byteOffset:=0 },{ name:= "Value",type:=3,offset:=1,embedded:=false,tag:= "",pkgPath:= "",byteOffset:=8 }]):=HasU.mk Tryz.underlying183
theorem XuZ:(Tryz.prog.info? 183).map (fun i=>(i.zero,i.size,i.bytes))=some (some (.agg #[(.int .i64 0),(.int .i64 0)]),2,16):=by kernel_rfl
instance:HasI Tryz.prog 183 2 16 [(.int .i64 0),(.int .i64 0)]:=HasI.mk_of XuZ rfl
instance:HasB Tryz.prog 183 [(0,1),(1,1)]:=⟨_,Tryz.underlying183,by kernel_rfl⟩
instance:HasU Tryz.prog 187 (.slice 29):=HasU.mk Tryz.underlying187
instance:HasU Tryz.prog 199 (.struct #[{ name:= "Rev",type:=3,offset:=0,embedded:=false,tag:= "",pkgPath:= "",byteOffset:=0 },{ name:= "Move",type:=3,offset:=1,embedded:=false,tag:= "",pkgPath:= "",byteOffset:=8 }]):=HasU.mk Tryz.underlying199
theorem XuY:(Tryz.prog.info? 199).map (fun i=>(i.zero,i.size,i.bytes))=some (some (.agg #[(.int .i64 0),(.int .i64 0)]),2,16):=by kernel_rfl
instance:HasI Tryz.prog 199 2 16 [(.int .i64 0),(.int .i64 0)]:=HasI.mk_of XuY rfl
instance:HasB Tryz.prog 199 [(0,1),(1,1)]:=⟨_,Tryz.underlying199,by kernel_rfl⟩
instance:HasU Tryz.prog 203 (.struct #[{ name:= "Rev",type:=3,offset:=0,embedded:=false,tag:= "",pkgPath:= "",byteOffset:=0 },{ name:= "Key",type:=3,offset:=1,embedded:=false,tag:= "",pkgPath:= "",byteOffset:=8 },{ name:= "Before",type:=3,offset:=2,embedded:=false,tag:= "",pkgPath:= "",byteOffset:=16 },{ name:= "Had",type:=4,offset:=3,embedded:=false,tag:= "",pkgPath:= "",byteOffset:=24 }]):=HasU.mk Tryz.underlying203
theorem XuX:(Tryz.prog.info? 203).map (fun i=>(i.zero,i.size,i.bytes))=some (some (.agg #[(.int .i64 0),(.int .i64 0),(.int .i64 0),(.bool false)]),4,32):=by kernel_rfl
instance:HasI Tryz.prog 203 4 32 [(.int .i64 0),(.int .i64 0),(.int .i64 0),(.bool false)]:=HasI.mk_of XuX rfl
instance:HasB Tryz.prog 203 [(0,1),(1,1),(2,1),(3,1)]:=⟨_,Tryz.underlying203,by kernel_rfl⟩
instance:HasU Tryz.prog 216 (.int .u64):=HasU.mk Tryz.underlying216
instance:HasU Tryz.prog 269 (.struct #[{ name:= "number",type:=3,offset:=0,embedded:=false,tag:= "",pkgPath:= "obelus/property",byteOffset:=0 },{ name:= "group",type:=3,offset:=1,embedded:=false,tag:= "",pkgPath:= "obelus/property",byteOffset:=8 },{ name:= "low",type:=3,offset:=2,embedded:=false,tag:= "",pkgPath:= "obelus/property",byteOffset:=16 },{ name:= "high",type:=3,offset:=3,embedded:=false,tag:= "",pkgPath:= "obelus/property",byteOffset:=24 },{ name:= "standard",type:=3,offset:=4,embedded:=false,tag:= "",pkgPath:= "obelus/property",byteOffset:=32 },{ name:= "name",type:=9,offset:=5,embedded:=false,tag:= "",pkgPath:= "obelus/property",byteOffset:=40 }]):=HasU.mk Tryz.underlying269
theorem XuW:(Tryz.prog.info? 269).map (fun i=>(i.zero,i.size,i.bytes))=some (some (.agg #[(.int .i64 0),(.int .i64 0),(.int .i64 0),(.int .i64 0),(.int .i64 0),(.string .empty)]),6,56):=by kernel_rfl
instance:HasI Tryz.prog 269 6 56 [(.int .i64 0),(.int .i64 0),(.int .i64 0),(.int .i64 0),(.int .i64 0),(.string .empty)]:=HasI.mk_of XuW rfl
instance:HasB Tryz.prog 269 [(0,1),(1,1),(2,1),(3,1),(4,1),(5,1)]:=⟨_,Tryz.underlying269,by kernel_rfl⟩
instance:HasU Tryz.prog 286 (.slice 269):=HasU.mk Tryz.underlying286
instance:HasU Tryz.prog 302 (.int .u64):=HasU.mk Tryz.underlying302
end Go.Proofs.YtlcphjcpoinolaaGreat
namespace Go.Proofs.YtlcphjcpoinolaaGreat
open Go.ChangeShapes Go.WideShapes Go.ChangeAt Go.RowKit Go.Th
def mW (w:World):Mp:=⟨fun _=>none,fun b=>b < w.heap.size,fun b=>b < w.heap.size,0⟩
section
variable {H:Type} {tok:TypeId × Value→H} {P:Program} {w:World} {base:Nat} {spare:Nat→Bool} {held:Bool}
end
section
variable {H:Type} {enc:TypeId × Value→H} {P:Program}
theorem XiZ {f:Func} {s:ChangeSpec} {XjK fresh handsOn again:Bool} {W W':World} {args:Array Value} {v:Value} {ds gs:List (DataW H)} {before pa pv:List MemPlace}
    (hW:DataW.Whole enc P f.params.toList s.vars XjK W args.toList ds gs before)
    (hres:∀ (b:Nat) (sp:Nat→Bool) (hd:Bool),DataW.TrodAll enc P W' b sp hd f.resultTypes.toList (v.resultList f.resultTypes.size) (s.fn H (ds++gs)).results [])
    (hargs:∀ sp:Nat→Bool,(∀ p ∈ before,sp p.block=true)→DataW.TrodAll enc P W' 0 sp true f.params.toList args.toList (s.fn H (ds++gs)).args pa)
    (hvars:∀ sp:Nat→Bool,(∀ p ∈ before,sp p.block=true)→DataW.TrodVars enc P W' sp s.vars (s.fn H (ds++gs)).vars pv)
    (hps:before=pa++pv) (hb:Below W.heap.size W W')
    (hok:∀ (j:Nat) (t:TypeId) (r:Value),f.resultTypes[j]?=some t→(v.resultList f.resultTypes.size)[j]?=some r→Value.okWide P W' .any 0 t r) :
    s.post enc P f XjK fresh handsOn again W args v W':=by
  have hlt:∀ p ∈ before,p.block < W.heap.size:=fun p hp=>hW.lt p hp
  have hold:∀ p ∈ before,(fun b=>decide (b < W.heap.size)) p.block=true:=fun p hp=>by simpa using hlt p hp
  refine ⟨ds,gs,before,[],pa,pv,hW,hres _ _ _,hargs _ hold,hvars _ hold,World.keptBut_mono (fun p hp=>⟨hp,?_⟩) (hb.frame (· ∈ before)),fun _=>?_⟩
  · rw [hps,List.mem_append] at hp
    exact Or.inr hp
  · obtain ⟨_,_,_,_,_,hz,hn⟩:=hW
    refine ⟨hok,_,_,([]++pa)++pv,⟨[]++pa,pv,trodAll_append (hargs _ (fun _ _=>rfl)) (hres _ _ _),hvars _ (fun _ _=>rfl),rfl,?_,?_⟩,?_⟩
    · intro b off hp
      have hin:MemPlace.cell b off ∈ before:=by rw [hps];simpa using hp
      rw [hb.frozen (hlt _ hin)]
      exact hz b off hin
    · intro ha
      have:=hn ha
      rw [hps] at this
      simpa using this
    · intro p hp _
      rw [hps]
      simpa using hp
end
theorem XrP:ownKnob Tryz.prog.godebug=none:=by kernel_rfl
theorem XpZ {f:FuncId} {args:List PV} {vals:Array Value} {W:World} (h:Iso Tryz.prog f args (fun p=>p=.v (.bool true))) (hr:XeK (mW W) W args vals) :
    Calls Tryz.prog f vals W fun e W'=>e=.returned (.bool true)∧Below W.heap.size W W':=by
  refine (h.2 (mW W) W vals (fun b h=>h) (fun b h=>h) (fun _=>rfl) hr).mono ?_
  rintro e w' ⟨v,p,m',rfl,rfl,hv,_,hle,_,_⟩
  cases hv
  exact ⟨rfl,hle.os,hle.tape,hle.output,hle.size,fun k hk=>hle.same k hk⟩
theorem XAT:laidOutB Tryz.prog=true:=by kernel_rfl
theorem Xkt {f:FuncId} {fn:Func} {b:Bool} (hf:Tryz.prog.funcs[f]?=some fn) (hn:(fn.name == "runtime.NumGoroutine")=false) (hb:fn.body.isNone=false)
    (h:∀ w,Calls Tryz.prog f #[] w fun e w'=>e=.returned (.bool b)∧Below w.heap.size w w'):Iso Tryz.prog f [] (fun p=>p=.v (.bool b)):=by
  refine ⟨⟨fn,hf,hn,hb⟩,fun m w vals h1 h2 h3 hr=>?_⟩
  obtain rfl:vals=#[]:=by
    have:=hr.1
    simpa using this
  refine (h w).mono ?_
  rintro e w' ⟨rfl,hb⟩
  exact ⟨.bool b,.v (.bool b),m,rfl,rfl,.v _ rfl,h3,⟨fun _ _ h=>h,fun _ h=>h,fun _ h=>h,fun k hk=>hb.5 k (h2 k hk),hb.size,hb.os,hb.tape,hb.output,fun _ h=>.inl h,rfl,fun _ _=>rfl⟩,h1,fun b hk=>Nat.lt_of_lt_of_le (h2 b hk) hb.size⟩
end Go.Proofs.YtlcphjcpoinolaaGreat
