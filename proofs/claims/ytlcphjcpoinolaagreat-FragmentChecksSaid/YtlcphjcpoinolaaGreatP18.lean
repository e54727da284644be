/- Part of the proof: the walk over the program and its laws: EvTab EvOk EvK. -/
import Derived.Test.YtlcphjcpoinolaaGreatProg
import Derived.KernelRfl
import Derived.Test.YtlcphjcpoinolaaGreatP0
import Derived.Test.YtlcphjcpoinolaaGreatP17
set_option linter.unusedVariables false
namespace Go.Proofs.YtlcphjcpoinolaaGreat
open Go Go.Ev
def ty3:TI:={ desc:=.int .i64,size:=1,bytes:=8,zero:=[(.int .i64 0)],places:=[],sc:=(some (.int .i64 0)) }
def ty4:TI:={ desc:=.bool,size:=1,bytes:=1,zero:=[(.bool false)],places:=[],sc:=(some (.bool false)) }
def ty5:TI:={ desc:=.int .u8,size:=1,bytes:=1,zero:=[(.int .u8 0)],places:=[],sc:=(some (.int .u8 0)) }
def ty9:TI:={ desc:=.string,size:=1,bytes:=16,zero:=[(.string .empty)],places:=[],sc:=(some (.string .empty)) }
def ty22:TI:={ desc:=.slice 46,size:=1,bytes:=24,zero:=[(.slice none 0 0)],places:=[],sc:=(some (.slice none 0 0)) }
def ty23:TI:={ desc:=.slice 100,size:=1,bytes:=24,zero:=[(.slice none 0 0)],places:=[],sc:=(some (.slice none 0 0)) }
def ty24:TI:={ desc:=.slice 103,size:=1,bytes:=24,zero:=[(.slice none 0 0)],places:=[],sc:=(some (.slice none 0 0)) }
def ty26:TI:={ desc:=.struct #[{ name:= "Items",type:=22,offset:=0,embedded:=false,tag:= "",pkgPath:= "",byteOffset:=0 },{ name:= "Styles",type:=23,offset:=1,embedded:=false,tag:= "",pkgPath:= "",byteOffset:=24 },{ name:= "Lists",type:=24,offset:=2,embedded:=false,tag:= "",pkgPath:= "",byteOffset:=48 }],size:=3,bytes:=72,zero:=[(.slice none 0 0),(.slice none 0 0),(.slice none 0 0)],places:=[(0,1),(1,1),(2,1)],sc:=none }
def ty29:TI:={ desc:=.int .i64,size:=1,bytes:=8,zero:=[(.int .i64 0)],places:=[],sc:=(some (.int .i64 0)) }
def ty37:TI:={ desc:=.slice 183,size:=1,bytes:=24,zero:=[(.slice none 0 0)],places:=[],sc:=(some (.slice none 0 0)) }
def ty38:TI:={ desc:=.slice 199,size:=1,bytes:=24,zero:=[(.slice none 0 0)],places:=[],sc:=(some (.slice none 0 0)) }
def ty39:TI:={ desc:=.slice 203,size:=1,bytes:=24,zero:=[(.slice none 0 0)],places:=[],sc:=(some (.slice none 0 0)) }
def ty41:TI:={ desc:=.struct #[{ name:= "Ins",type:=3,offset:=0,embedded:=false,tag:= "",pkgPath:= "",byteOffset:=0 },{ name:= "Move",type:=3,offset:=1,embedded:=false,tag:= "",pkgPath:= "",byteOffset:=8 },{ name:= "Dels",type:=38,offset:=2,embedded:=false,tag:= "",pkgPath:= "",byteOffset:=16 },{ name:= "Layers",type:=39,offset:=3,embedded:=false,tag:= "",pkgPath:= "",byteOffset:=40 }],size:=4,bytes:=64,zero:=[(.int .i64 0),(.int .i64 0),(.slice none 0 0),(.slice none 0 0)],places:=[(0,1),(1,1),(2,1),(3,1)],sc:=none }
def ty43:TI:={ desc:=.struct #[{ name:= "Props",type:=37,offset:=0,embedded:=false,tag:= "",pkgPath:= "",byteOffset:=0 },{ name:= "Marks",type:=41,offset:=1,embedded:=false,tag:= "",pkgPath:= "",byteOffset:=24 }],size:=5,bytes:=88,zero:=[(.slice none 0 0),(.int .i64 0),(.int .i64 0),(.slice none 0 0),(.slice none 0 0)],places:=[(0,1),(1,4)],sc:=none }
def ty44:TI:={ desc:=.slice 94,size:=1,bytes:=24,zero:=[(.slice none 0 0)],places:=[],sc:=(some (.slice none 0 0)) }
def ty46:TI:={ desc:=.struct #[{ name:= "Kind",type:=3,offset:=0,embedded:=false,tag:= "",pkgPath:= "",byteOffset:=0 },{ name:= "Code",type:=3,offset:=1,embedded:=false,tag:= "",pkgPath:= "",byteOffset:=8 },{ name:= "Id",type:=3,offset:=2,embedded:=false,tag:= "",pkgPath:= "",byteOffset:=16 },{ name:= "Text",type:=9,offset:=3,embedded:=false,tag:= "",pkgPath:= "",byteOffset:=24 },{ name:= "Head",type:=43,offset:=4,embedded:=false,tag:= "",pkgPath:= "",byteOffset:=40 },{ name:= "Flow",type:=22,offset:=9,embedded:=false,tag:= "",pkgPath:= "",byteOffset:=128 },{ name:= "Rows",type:=44,offset:=10,embedded:=false,tag:= "",pkgPath:= "",byteOffset:=152 }],size:=11,bytes:=176,zero:=[(.int .i64 0),(.int .i64 0),(.int .i64 0),(.string .empty),(.slice none 0 0),(.int .i64 0),(.int .i64 0),(.slice none 0 0),(.slice none 0 0),(.slice none 0 0),(.slice none 0 0)],places:=[(0,1),(1,1),(2,1),(3,1),(4,5),(9,1),(10,1)],sc:=none }
def ty47:TI:={ desc:=.slice 133,size:=1,bytes:=24,zero:=[(.slice none 0 0)],places:=[],sc:=(some (.slice none 0 0)) }
def ty48:TI:={ desc:=.slice 138,size:=1,bytes:=24,zero:=[(.slice none 0 0)],places:=[],sc:=(some (.slice none 0 0)) }
def ty49:TI:={ desc:=.slice 141,size:=1,bytes:=24,zero:=[(.slice none 0 0)],places:=[],sc:=(some (.slice none 0 0)) }
def ty51:TI:={ desc:=.struct #[{ name:= "Styles",type:=23,offset:=0,embedded:=false,tag:= "",pkgPath:= "",byteOffset:=0 },{ name:= "Lists",type:=24,offset:=1,embedded:=false,tag:= "",pkgPath:= "",byteOffset:=24 },{ name:= "Comments",type:=48,offset:=2,embedded:=false,tag:= "",pkgPath:= "",byteOffset:=48 },{ name:= "Vars",type:=49,offset:=3,embedded:=false,tag:= "",pkgPath:= "",byteOffset:=72 }],size:=4,bytes:=96,zero:=[(.slice none 0 0),(.slice none 0 0),(.slice none 0 0),(.slice none 0 0)],places:=[(0,1),(1,1),(2,1),(3,1)],sc:=none }
def ty53:TI:={ desc:=.struct #[{ name:= "Flow",type:=22,offset:=0,embedded:=false,tag:= "",pkgPath:= "",byteOffset:=0 },{ name:= "End",type:=43,offset:=1,embedded:=false,tag:= "",pkgPath:= "",byteOffset:=24 },{ name:= "Revs",type:=47,offset:=6,embedded:=false,tag:= "",pkgPath:= "",byteOffset:=112 },{ name:= "Settings",type:=51,offset:=7,embedded:=false,tag:= "",pkgPath:= "",byteOffset:=136 }],size:=11,bytes:=232,zero:=[(.slice none 0 0),(.slice none 0 0),(.int .i64 0),(.int .i64 0),(.slice none 0 0),(.slice none 0 0),(.slice none 0 0),(.slice none 0 0),(.slice none 0 0),(.slice none 0 0),(.slice none 0 0)],places:=[(0,1),(1,5),(6,1),(7,4)],sc:=none }
def ty56:TI:={ desc:=.struct #[{ name:= "Flow",type:=3,offset:=0,embedded:=false,tag:= "",pkgPath:= "",byteOffset:=0 },{ name:= "From",type:=3,offset:=1,embedded:=false,tag:= "",pkgPath:= "",byteOffset:=8 },{ name:= "To",type:=3,offset:=2,embedded:=false,tag:= "",pkgPath:= "",byteOffset:=16 }],size:=3,bytes:=24,zero:=[(.int .i64 0),(.int .i64 0),(.int .i64 0)],places:=[(0,1),(1,1),(2,1)],sc:=none }
def ty57:TI:={ desc:=.slice 3,size:=1,bytes:=24,zero:=[(.slice none 0 0)],places:=[],sc:=(some (.slice none 0 0)) }
def ty78:TI:={ desc:=.pointer 81,size:=1,bytes:=8,zero:=[(.pointer none)],places:=[],sc:=(some (.pointer none)) }
def ty79:TI:={ desc:=.slice 5,size:=1,bytes:=24,zero:=[(.slice none 0 0)],places:=[],sc:=(some (.slice none 0 0)) }
def ty81:TI:={ desc:=.struct #[{ name:= "addr",type:=78,offset:=0,embedded:=false,tag:= "",pkgPath:= "strings",byteOffset:=0 },{ name:= "buf",type:=79,offset:=1,embedded:=false,tag:= "",pkgPath:= "strings",byteOffset:=8 }],size:=2,bytes:=32,zero:=[(.pointer none),(.slice none 0 0)],places:=[(0,1),(1,1)],sc:=none }
def ty92:TI:={ desc:=.slice 96,size:=1,bytes:=24,zero:=[(.slice none 0 0)],places:=[],sc:=(some (.slice none 0 0)) }
def ty94:TI:={ desc:=.struct #[{ name:= "Head",type:=43,offset:=0,embedded:=false,tag:= "",pkgPath:= "",byteOffset:=0 },{ name:= "Cells",type:=92,offset:=5,embedded:=false,tag:= "",pkgPath:= "",byteOffset:=88 }],size:=6,bytes:=112,zero:=[(.slice none 0 0),(.int .i64 0),(.int .i64 0),(.slice none 0 0),(.slice none 0 0),(.slice none 0 0)],places:=[(0,5),(5,1)],sc:=none }
def ty96:TI:={ desc:=.struct #[{ name:= "Id",type:=3,offset:=0,embedded:=false,tag:= "",pkgPath:= "",byteOffset:=0 },{ name:= "Head",type:=43,offset:=1,embedded:=false,tag:= "",pkgPath:= "",byteOffset:=8 },{ name:= "Flow",type:=22,offset:=6,embedded:=false,tag:= "",pkgPath:= "",byteOffset:=96 }],size:=7,bytes:=120,zero:=[(.int .i64 0),(.slice none 0 0),(.int .i64 0),(.int .i64 0),(.slice none 0 0),(.slice none 0 0),(.slice none 0 0)],places:=[(0,1),(1,5),(6,1)],sc:=none }
def Xyc:TI:={ desc:=.struct #[{ name:= "Id",type:=3,offset:=0,embedded:=false,tag:= "",pkgPath:= "",byteOffset:=0 },{ name:= "Kind",type:=3,offset:=1,embedded:=false,tag:= "",pkgPath:= "",byteOffset:=8 },{ name:= "Name",type:=9,offset:=2,embedded:=false,tag:= "",pkgPath:= "",byteOffset:=16 },{ name:= "Base",type:=3,offset:=3,embedded:=false,tag:= "",pkgPath:= "",byteOffset:=32 },{ name:= "Next",type:=3,offset:=4,embedded:=false,tag:= "",pkgPath:= "",byteOffset:=40 },{ name:= "Props",type:=37,offset:=5,embedded:=false,tag:= "",pkgPath:= "",byteOffset:=48 }],size:=6,bytes:=72,zero:=[(.int .i64 0),(.int .i64 0),(.string .empty),(.int .i64 0),(.int .i64 0),(.slice none 0 0)],places:=[(0,1),(1,1),(2,1),(3,1),(4,1),(5,1)],sc:=none }
def Xyb:TI:={ desc:=.slice 127,size:=1,bytes:=24,zero:=[(.slice none 0 0)],places:=[],sc:=(some (.slice none 0 0)) }
def Xya:TI:={ desc:=.struct #[{ name:= "Id",type:=3,offset:=0,embedded:=false,tag:= "",pkgPath:= "",byteOffset:=0 },{ name:= "Levels",type:=101,offset:=1,embedded:=false,tag:= "",pkgPath:= "",byteOffset:=8 }],size:=2,bytes:=32,zero:=[(.int .i64 0),(.slice none 0 0)],places:=[(0,1),(1,1)],sc:=none }
def Xx9:TI:={ desc:=.pointer 117,size:=1,bytes:=8,zero:=[(.pointer none)],places:=[],sc:=(some (.pointer none)) }
def Xx8:TI:={ desc:=.struct #[{ name:= "body",type:=4,offset:=0,embedded:=false,tag:= "",pkgPath:= "obelus/document",byteOffset:=0 },{ name:= "note",type:=4,offset:=1,embedded:=false,tag:= "",pkgPath:= "obelus/document",byteOffset:=1 },{ name:= "tables",type:=3,offset:=2,embedded:=false,tag:= "",pkgPath:= "obelus/document",byteOffset:=8 }],size:=3,bytes:=16,zero:=[(.bool false),(.bool false),(.int .i64 0)],places:=[(0,1),(1,1),(2,1)],sc:=none }
def Xx7:TI:={ desc:=.map 3 3,size:=1,bytes:=8,zero:=[(.map none)],places:=[],sc:=(some (.map none)) }
def Xx6:TI:={ desc:=.map 3 4,size:=1,bytes:=8,zero:=[(.map none)],places:=[],sc:=(some (.map none)) }
def Xx5:TI:={ desc:=.struct #[{ name:= "styles",type:=114,offset:=0,embedded:=false,tag:= "",pkgPath:= "obelus/document",byteOffset:=0 },{ name:= "lists",type:=115,offset:=1,embedded:=false,tag:= "",pkgPath:= "obelus/document",byteOffset:=8 },{ name:= "revs",type:=115,offset:=2,embedded:=false,tag:= "",pkgPath:= "obelus/document",byteOffset:=16 },{ name:= "before",type:=115,offset:=3,embedded:=false,tag:= "",pkgPath:= "obelus/document",byteOffset:=24 },{ name:= "used",type:=115,offset:=4,embedded:=false,tag:= "",pkgPath:= "obelus/document",byteOffset:=32 },{ name:= "units",type:=3,offset:=5,embedded:=false,tag:= "",pkgPath:= "obelus/document",byteOffset:=40 }],size:=6,bytes:=48,zero:=[(.map none),(.map none),(.map none),(.map none),(.map none),(.int .i64 0)],places:=[(0,1),(1,1),(2,1),(3,1),(4,1),(5,1)],sc:=none }
def Xx4:TI:={ desc:=.func #[43] #[43] false,size:=1,bytes:=8,zero:=[.nilFunc],places:=[],sc:=(some .nilFunc) }
def Xx3:TI:={ desc:=.func #[46] #[4] false,size:=1,bytes:=8,zero:=[.nilFunc],places:=[],sc:=(some .nilFunc) }
def Xx2:TI:={ desc:=.func #[3] #[3] false,size:=1,bytes:=8,zero:=[.nilFunc],places:=[],sc:=(some .nilFunc) }
def Xx1:TI:={ desc:=.struct #[{ name:= "head",type:=119,offset:=0,embedded:=false,tag:= "",pkgPath:= "obelus/fragment",byteOffset:=0 },{ name:= "keep",type:=120,offset:=1,embedded:=false,tag:= "",pkgPath:= "obelus/fragment",byteOffset:=8 },{ name:= "id",type:=121,offset:=2,embedded:=false,tag:= "",pkgPath:= "obelus/fragment",byteOffset:=16 }],size:=3,bytes:=24,zero:=[.nilFunc,.nilFunc,.nilFunc],places:=[(0,1),(1,1),(2,1)],sc:=none }
def Xx0:TI:={ desc:=.struct #[{ name:= "Format",type:=3,offset:=0,embedded:=false,tag:= "",pkgPath:= "",byteOffset:=0 },{ name:= "Start",type:=3,offset:=1,embedded:=false,tag:= "",pkgPath:= "",byteOffset:=8 },{ name:= "Template",type:=9,offset:=2,embedded:=false,tag:= "",pkgPath:= "",byteOffset:=16 },{ name:= "Restart",type:=3,offset:=3,embedded:=false,tag:= "",pkgPath:= "",byteOffset:=32 }],size:=4,bytes:=40,zero:=[(.int .i64 0),(.int .i64 0),(.string .empty),(.int .i64 0)],places:=[(0,1),(1,1),(2,1),(3,1)],sc:=none }
def XxZ:TI:={ desc:=.struct #[{ name:= "Id",type:=3,offset:=0,embedded:=false,tag:= "",pkgPath:= "",byteOffset:=0 },{ name:= "Author",type:=9,offset:=1,embedded:=false,tag:= "",pkgPath:= "",byteOffset:=8 },{ name:= "Time",type:=3,offset:=2,embedded:=false,tag:= "",pkgPath:= "",byteOffset:=24 }],size:=3,bytes:=32,zero:=[(.int .i64 0),(.string .empty),(.int .i64 0)],places:=[(0,1),(1,1),(2,1)],sc:=none }
def XxY:TI:={ desc:=.struct #[{ name:= "Id",type:=3,offset:=0,embedded:=false,tag:= "",pkgPath:= "",byteOffset:=0 },{ name:= "Parent",type:=3,offset:=1,embedded:=false,tag:= "",pkgPath:= "",byteOffset:=8 },{ name:= "Author",type:=9,offset:=2,embedded:=false,tag:= "",pkgPath:= "",byteOffset:=16 },{ name:= "Time",type:=3,offset:=3,embedded:=false,tag:= "",pkgPath:= "",byteOffset:=32 },{ name:= "Text",type:=9,offset:=4,embedded:=false,tag:= "",pkgPath:= "",byteOffset:=40 },{ name:= "Done",type:=4,offset:=5,embedded:=false,tag:= "",pkgPath:= "",byteOffset:=56 }],size:=6,bytes:=64,zero:=[(.int .i64 0),(.int .i64 0),(.string .empty),(.int .i64 0),(.string .empty),(.bool false)],places:=[(0,1),(1,1),(2,1),(3,1),(4,1),(5,1)],sc:=none }
def XxX:TI:={ desc:=.struct #[{ name:= "Name",type:=9,offset:=0,embedded:=false,tag:= "",pkgPath:= "",byteOffset:=0 },{ name:= "Value",type:=9,offset:=1,embedded:=false,tag:= "",pkgPath:= "",byteOffset:=16 }],size:=2,bytes:=32,zero:=[(.string .empty),(.string .empty)],places:=[(0,1),(1,1)],sc:=none }
def XxW:TI:={ desc:=.pointer 5,size:=1,bytes:=8,zero:=[(.pointer none)],places:=[],sc:=(some (.pointer none)) }
def XxV:TI:={ desc:=.struct #[{ name:= "items",type:=22,offset:=0,embedded:=false,tag:= "",pkgPath:= "obelus/document",byteOffset:=0 },{ name:= "at",type:=113,offset:=1,embedded:=false,tag:= "",pkgPath:= "obelus/document",byteOffset:=24 }],size:=4,bytes:=40,zero:=[(.slice none 0 0),(.bool false),(.bool false),(.int .i64 0)],places:=[(0,1),(1,3)],sc:=none }
def XxU:TI:={ desc:=.func #[3] #[] false,size:=1,bytes:=8,zero:=[.nilFunc],places:=[],sc:=(some .nilFunc) }
def XxT:TI:={ desc:=.struct #[{ name:= "Key",type:=3,offset:=0,embedded:=false,tag:= "",pkgPath:= "",byteOffset:=0 },{ name:= "Value",type:=3,offset:=1,embedded:=false,tag:= "",pkgPath:= "",byteOffset:=8 }],size:=2,bytes:=16,zero:=[(.int .i64 0),(.int .i64 0)],places:=[(0,1),(1,1)],sc:=none }
def XxS:TI:={ desc:=.func #[43] #[] false,size:=1,bytes:=8,zero:=[.nilFunc],places:=[],sc:=(some .nilFunc) }
def XxR:TI:={ desc:=.slice 29,size:=1,bytes:=24,zero:=[(.slice none 0 0)],places:=[],sc:=(some (.slice none 0 0)) }
def XxQ:TI:={ desc:=.struct #[{ name:= "Rev",type:=3,offset:=0,embedded:=false,tag:= "",pkgPath:= "",byteOffset:=0 },{ name:= "Move",type:=3,offset:=1,embedded:=false,tag:= "",pkgPath:= "",byteOffset:=8 }],size:=2,bytes:=16,zero:=[(.int .i64 0),(.int .i64 0)],places:=[(0,1),(1,1)],sc:=none }
def XxP:TI:={ desc:=.struct #[{ name:= "Rev",type:=3,offset:=0,embedded:=false,tag:= "",pkgPath:= "",byteOffset:=0 },{ name:= "Key",type:=3,offset:=1,embedded:=false,tag:= "",pkgPath:= "",byteOffset:=8 },{ name:= "Before",type:=3,offset:=2,embedded:=false,tag:= "",pkgPath:= "",byteOffset:=16 },{ name:= "Had",type:=4,offset:=3,embedded:=false,tag:= "",pkgPath:= "",byteOffset:=24 }],size:=4,bytes:=32,zero:=[(.int .i64 0),(.int .i64 0),(.int .i64 0),(.bool false)],places:=[(0,1),(1,1),(2,1),(3,1)],sc:=none }
def XxO:TI:={ desc:=.int .u64,size:=1,bytes:=8,zero:=[(.int .u64 0)],places:=[],sc:=(some (.int .u64 0)) }
def XxN:TI:={ desc:=.unsafePointer,size:=1,bytes:=8,zero:=[(.pointer none)],places:=[],sc:=(some (.pointer none)) }
def XxM:TI:={ desc:=.int .i64,size:=1,bytes:=8,zero:=[(.int .i64 0)],places:=[],sc:=(some (.int .i64 0)) }
def XxL:TI:={ desc:=.int .u32,size:=1,bytes:=4,zero:=[(.int .u32 0)],places:=[],sc:=(some (.int .u32 0)) }
def XxK:TI:={ desc:=.int .u64,size:=1,bytes:=8,zero:=[(.int .u64 0)],places:=[],sc:=(some (.int .u64 0)) }
def Xnd:BT TI:=(.node (.node (.node (.node (.node (.node (.node (.node .leaf (some Xx0) .leaf) none .leaf) none .leaf) none (.node (.node .leaf (some ty79) .leaf) (some ty47) (.node (.node .leaf (some XxV) .leaf) none .leaf))) none (.node (.node (.node .leaf none (.node .leaf (some XxQ) .leaf)) (some ty39) (.node .leaf (some Xya) .leaf)) (some ty23) (.node .leaf none (.node (.node .leaf (some XxT) .leaf) (some Xx4) .leaf)))) (some ty3) (.node (.node (.node (.node (.node (.node .leaf (some XxN) .leaf) none .leaf) none .leaf) none .leaf) none (.node .leaf (some ty51) (.node (.node .leaf (some XxU) .leaf) (some Xx6) .leaf))) none (.node (.node (.node .leaf none (.node .leaf (some XxP) .leaf)) (some ty43) (.node .leaf (some Xx9) .leaf)) none (.node .leaf none (.node (.node .leaf (some XxR) .leaf) (some Xx1) .leaf))))) none (.node (.node (.node .leaf none (.node (.node .leaf (some ty81) .leaf) (some ty49) (.node .leaf (some Xx8) .leaf))) (some ty9) (.node (.node .leaf (some ty41) .leaf) none (.node .leaf (some ty57) (.node .leaf (some Xx2) .leaf)))) (some ty5) (.node (.node (.node (.node (.node .leaf (some XxZ) .leaf) none .leaf) (some ty37) (.node (.node (.node .leaf (some XxM) .leaf) none .leaf) (some Xyb) .leaf)) none (.node .leaf (some ty53) (.node .leaf (some Xx5) .leaf))) none (.node (.node (.node (.node .leaf (some XxX) .leaf) none .leaf) none .leaf) (some ty29) .leaf)))) none (.node (.node (.node (.node (.node .leaf none (.node .leaf (some ty96) .leaf)) none (.node .leaf (some ty48) .leaf)) none (.node .leaf (some ty24) (.node (.node .leaf none (.node .leaf (some XxO) .leaf)) (some ty56) (.node (.node .leaf (some XxS) .leaf) (some Xx3) .leaf)))) (some ty4) (.node (.node (.node .leaf none (.node .leaf (some Xyc) .leaf)) none .leaf) none (.node (.node .leaf (some ty44) (.node (.node (.node .leaf (some XxL) .leaf) none .leaf) none .leaf)) none (.node (.node .leaf (some ty92) .leaf) none .leaf)))) none (.node (.node (.node .leaf none (.node .leaf none (.node .leaf (some Xx7) .leaf))) none (.node (.node (.node (.node .leaf (some XxY) .leaf) none .leaf) none (.node (.node .leaf (some XxW) .leaf) none .leaf)) (some ty26) .leaf)) none (.node (.node (.node .leaf (some ty38) .leaf) (some ty22) .leaf) none (.node (.node (.node .leaf (some ty78) .leaf) (some ty46) (.node (.node (.node .leaf (some XxK) .leaf) none .leaf) none .leaf)) none (.node (.node .leaf (some ty94) .leaf) none .leaf))))))
noncomputable def Xwm:BT Func:=(.node (.node (.node (.node (.node (.node (.node (.node .leaf (some Tryz.f127) .leaf) (some Tryz.f63) (.node .leaf (some Tryz.f191) .leaf)) none (.node (.node .leaf (some Tryz.f159) .leaf) (some Tryz.f95) .leaf)) (some Tryz.f15) (.node (.node (.node .leaf (some Tryz.f143) .leaf) none .leaf) (some Tryz.f47) .leaf)) (some Tryz.f7) (.node (.node .leaf (some Tryz.f39) .leaf) (some Tryz.f23) (.node (.node (.node .leaf (some Tryz.f151) .leaf) none .leaf) (some Tryz.f55) (.node (.node .leaf (some Tryz.f183) .leaf) (some Tryz.f119) .leaf)))) none (.node (.node (.node (.node (.node .leaf (some Tryz.f131) .leaf) none .leaf) none (.node (.node .leaf (some Tryz.f163) .leaf) none (.node .leaf (some Tryz.f227) .leaf))) (some Tryz.f19) (.node (.node (.node .leaf (some Tryz.f147) .leaf) (some Tryz.f83) .leaf) (some Tryz.f51) .leaf)) none (.node (.node .leaf (some Tryz.f43) (.node .leaf (some Tryz.f107) .leaf)) none (.node (.node (.node .leaf (some Tryz.f155) .leaf) (some Tryz.f91) .leaf) (some Tryz.f59) (.node .leaf (some Tryz.f123) .leaf))))) none (.node (.node (.node (.node (.node (.node .leaf (some Tryz.f129) .leaf) (some Tryz.f65) (.node .leaf (some Tryz.f193) .leaf)) (some Tryz.f33) (.node (.node .leaf (some Tryz.f161) .leaf) (some Tryz.f97) .leaf)) none (.node (.node .leaf (some Tryz.f81) .leaf) (some Tryz.f49) (.node .leaf (some Tryz.f113) .leaf))) none (.node (.node .leaf (some Tryz.f41) (.node .leaf (some Tryz.f105) .leaf)) none (.node (.node (.node .leaf (some Tryz.f153) .leaf) (some Tryz.f89) .leaf) none (.node (.node .leaf (some Tryz.f185) .leaf) (some Tryz.f121) .leaf)))) (some Tryz.f5) (.node (.node (.node .leaf (some Tryz.f37) (.node .leaf (some Tryz.f101) .leaf)) (some Tryz.f21) (.node (.node (.node .leaf (some Tryz.f149) .leaf) none .leaf) (some Tryz.f53) (.node (.node .leaf (some Tryz.f181) .leaf) none .leaf))) (some Tryz.f13) (.node (.node (.node (.node .leaf (some Tryz.f141) .leaf) none (.node .leaf (some Tryz.f205) .leaf)) (some Tryz.f45) .leaf) none (.node (.node .leaf (some Tryz.f93) .leaf) (some Tryz.f61) (.node .leaf (some Tryz.f125) .leaf)))))) none (.node (.node (.node (.node (.node (.node (.node .leaf (some Tryz.f128) .leaf) (some Tryz.f64) .leaf) (some Tryz.f32) (.node (.node .leaf (some Tryz.f160) .leaf) (some Tryz.f96) .leaf)) none (.node (.node (.node .leaf (some Tryz.f144) .leaf) none .leaf) (some Tryz.f48) .leaf)) none (.node (.node .leaf (some Tryz.f40) (.node .leaf (some Tryz.f104) .leaf)) none (.node .leaf none (.node (.node .leaf (some Tryz.f184) .leaf) (some Tryz.f120) .leaf)))) none (.node (.node (.node .leaf (some Tryz.f36) (.node .leaf (some Tryz.f100) .leaf)) (some Tryz.f20) (.node (.node (.node .leaf (some Tryz.f148) .leaf) none .leaf) (some Tryz.f52) (.node (.node .leaf (some Tryz.f180) .leaf) none .leaf))) none (.node (.node (.node .leaf none (.node .leaf (some Tryz.f204) .leaf)) none (.node .leaf (some Tryz.f108) .leaf)) (some Tryz.f28) (.node (.node (.node .leaf (some Tryz.f156) .leaf) (some Tryz.f92) .leaf) (some Tryz.f60) (.node .leaf (some Tryz.f124) .leaf))))) none (.node (.node (.node (.node (.node (.node .leaf (some Tryz.f130) .leaf) (some Tryz.f66) (.node .leaf (some Tryz.f194) .leaf)) none (.node (.node .leaf (some Tryz.f162) .leaf) none .leaf)) (some Tryz.f18) (.node (.node .leaf (some Tryz.f82) .leaf) (some Tryz.f50) (.node .leaf (some Tryz.f114) .leaf))) (some Tryz.f10) (.node (.node .leaf (some Tryz.f42) (.node .leaf (some Tryz.f106) .leaf)) none (.node (.node (.node .leaf (some Tryz.f154) .leaf) (some Tryz.f90) (.node .leaf (some Tryz.f218) .leaf)) (some Tryz.f58) (.node (.node .leaf (some Tryz.f186) .leaf) (some Tryz.f122) .leaf)))) none (.node (.node (.node (.node (.node .leaf (some Tryz.f134) .leaf) none .leaf) (some Tryz.f38) (.node .leaf (some Tryz.f102) .leaf)) (some Tryz.f22) (.node (.node (.node .leaf (some Tryz.f150) .leaf) (some Tryz.f86) .leaf) (some Tryz.f54) (.node .leaf (some Tryz.f118) .leaf))) (some Tryz.f14) (.node (.node (.node (.node .leaf (some Tryz.f142) .leaf) none (.node .leaf (some Tryz.f206) .leaf)) (some Tryz.f46) .leaf) none (.node (.node .leaf (some Tryz.f94) .leaf) (some Tryz.f62) (.node (.node .leaf (some Tryz.f190) .leaf) (some Tryz.f126) .leaf)))))))
noncomputable def tab:Tab:={ P:=Tryz.prog,ti:=Xnd.get,fn:=Xwm.get,ext:=fun f=>Nat.beq f 189 }
end Go.Proofs.YtlcphjcpoinolaaGreat
namespace Go.Ev
def BT.All {α:Type} (p:Nat→α→Prop):BT α→(Nat→Nat)→Prop
  | .leaf,_=>True
  | .node l v r,f=>(match v with | some a=>p (f 0) a | none=>True)∧l.All p (fun m=>f (2 * m+1))∧r.All p (fun m=>f (2 * m+2))
theorem BT.all_get {α:Type} {p:Nat→α→Prop}:∀ (t:BT α) (f:Nat→Nat) (n:Nat) (a:α),t.All p f→t.get n=some a→p (f n) a
  | .leaf,_,n,_,_,hg=>by simp [BT.get] at hg
  | .node l v r,f,n,a,h,hg=>by
    obtain ⟨h1,h2,h3⟩:=h
    cases n with
    | zero=>simp only [BT.get] at hg;subst hg;exact h1
    | succ k =>
      simp only [BT.get] at hg
      split at hg
      · rename_i hb
        have hb:=Nat.eq_of_beq_eq_true hb
        have:=BT.all_get l _ (k / 2) a h2 hg
        rwa [show 2 * (k / 2)+1=k+1 from by omega] at this
      · rename_i hb
        have hb:=Nat.ne_of_beq_eq_false hb
        have:=BT.all_get r _ (k / 2) a h3 hg
        rwa [show 2 * (k / 2)+2=k+1 from by omega] at this
theorem Xbj {P:Program} {t:TypeId} {size bytes:Nat} {zv:Value} (h:(P.info? t).map (fun i=>(i.zero,i.size,i.bytes))=some (some zv,size,bytes)):∃ inf,P.info? t=some inf∧inf.zero=some zv:=by
  cases hi:P.info? t with
  | none=>rw [hi] at h;cases h
  | some i =>
    rw [hi] at h
    simp only [Option.map_some,Option.some.injEq,Prod.mk.injEq] at h
    exact ⟨i,rfl,h.1⟩
theorem Xy {P:Program} {t:TypeId} {size bytes:Nat} {zv:Value} {z:List Value} (h:(P.info? t).map (fun i=>(i.zero,i.size,i.bytes))=some (some zv,size,bytes)) (hz:zv.cells.toList=z):HasI P t size bytes z:=by
  cases hi:P.info? t with
  | none=>rw [hi] at h;cases h
  | some i =>
    rw [hi] at h
    simp only [Option.map_some,Option.some.injEq,Prod.mk.injEq] at h
    exact ⟨i,zv,hi,h.2.1,h.2.2,h.1,hz⟩
end Go.Ev
namespace Go.Proofs.YtlcphjcpoinolaaGreat
open Go Go.Ev
def XbZ (t:Nat) (i:TI):Prop:=HasU Tryz.prog t i.desc∧HasI Tryz.prog t i.size i.bytes i.zero∧(∀ fs,i.desc=.struct fs→HasB Tryz.prog t i.places)∧∀ z,i.sc=some z→∃ inf,Tryz.prog.info? t=some inf∧inf.zero=some z
def Xag (f:Nat) (fn:Func):Prop:=Tryz.prog.funcs[f]?=some fn∧(fn.name == "runtime.NumGoroutine")=false
theorem XBd:XbZ 3 ty3:=have h:(Tryz.prog.info? 3).map (fun i=>(i.zero,i.size,i.bytes))=some (some ((.int .i64 0)),1,8):=(by kernel_rfl);⟨⟨Tryz.underlying3⟩,Xy h rfl,(fun fs h=>by cases h),fun z hz=>by cases hz;exact Xbj h⟩
theorem XBc:XbZ 4 ty4:=have h:(Tryz.prog.info? 4).map (fun i=>(i.zero,i.size,i.bytes))=some (some ((.bool false)),1,1):=(by kernel_rfl);⟨⟨Tryz.underlying4⟩,Xy h rfl,(fun fs h=>by cases h),fun z hz=>by cases hz;exact Xbj h⟩
theorem XBb:XbZ 5 ty5:=have h:(Tryz.prog.info? 5).map (fun i=>(i.zero,i.size,i.bytes))=some (some ((.int .u8 0)),1,1):=(by kernel_rfl);⟨⟨Tryz.underlying5⟩,Xy h rfl,(fun fs h=>by cases h),fun z hz=>by cases hz;exact Xbj h⟩
theorem XBa:XbZ 9 ty9:=have h:(Tryz.prog.info? 9).map (fun i=>(i.zero,i.size,i.bytes))=some (some ((.string .empty)),1,16):=(by kernel_rfl);⟨⟨Tryz.underlying9⟩,Xy h rfl,(fun fs h=>by cases h),fun z hz=>by cases hz;exact Xbj h⟩
theorem XxJ:XbZ 22 ty22:=have h:(Tryz.prog.info? 22).map (fun i=>(i.zero,i.size,i.bytes))=some (some ((.slice none 0 0)),1,24):=(by kernel_rfl);⟨⟨Tryz.underlying22⟩,Xy h rfl,(fun fs h=>by cases h),fun z hz=>by cases hz;exact Xbj h⟩
theorem XxI:XbZ 23 ty23:=have h:(Tryz.prog.info? 23).map (fun i=>(i.zero,i.size,i.bytes))=some (some ((.slice none 0 0)),1,24):=(by kernel_rfl);⟨⟨Tryz.underlying23⟩,Xy h rfl,(fun fs h=>by cases h),fun z hz=>by cases hz;exact Xbj h⟩
theorem XxH:XbZ 24 ty24:=have h:(Tryz.prog.info? 24).map (fun i=>(i.zero,i.size,i.bytes))=some (some ((.slice none 0 0)),1,24):=(by kernel_rfl);⟨⟨Tryz.underlying24⟩,Xy h rfl,(fun fs h=>by cases h),fun z hz=>by cases hz;exact Xbj h⟩
theorem XxG:XbZ 26 ty26:=have h:(Tryz.prog.info? 26).map (fun i=>(i.zero,i.size,i.bytes))=some (some (.agg #[(.slice none 0 0),(.slice none 0 0),(.slice none 0 0)]),3,72):=(by kernel_rfl);⟨⟨Tryz.underlying26⟩,Xy h rfl,(fun fs h=>⟨_,Tryz.underlying26,by kernel_rfl⟩),fun z hz=>by cases hz⟩
theorem XxF:XbZ 29 ty29:=have h:(Tryz.prog.info? 29).map (fun i=>(i.zero,i.size,i.bytes))=some (some ((.int .i64 0)),1,8):=(by kernel_rfl);⟨⟨Tryz.underlying29⟩,Xy h rfl,(fun fs h=>by cases h),fun z hz=>by cases hz;exact Xbj h⟩
theorem XxE:XbZ 37 ty37:=have h:(Tryz.prog.info? 37).map (fun i=>(i.zero,i.size,i.bytes))=some (some ((.slice none 0 0)),1,24):=(by kernel_rfl);⟨⟨Tryz.underlying37⟩,Xy h rfl,(fun fs h=>by cases h),fun z hz=>by cases hz;exact Xbj h⟩
theorem XxD:XbZ 38 ty38:=have h:(Tryz.prog.info? 38).map (fun i=>(i.zero,i.size,i.bytes))=some (some ((.slice none 0 0)),1,24):=(by kernel_rfl);⟨⟨Tryz.underlying38⟩,Xy h rfl,(fun fs h=>by cases h),fun z hz=>by cases hz;exact Xbj h⟩
theorem XxC:XbZ 39 ty39:=have h:(Tryz.prog.info? 39).map (fun i=>(i.zero,i.size,i.bytes))=some (some ((.slice none 0 0)),1,24):=(by kernel_rfl);⟨⟨Tryz.underlying39⟩,Xy h rfl,(fun fs h=>by cases h),fun z hz=>by cases hz;exact Xbj h⟩
theorem XxB:XbZ 41 ty41:=have h:(Tryz.prog.info? 41).map (fun i=>(i.zero,i.size,i.bytes))=some (some (.agg #[(.int .i64 0),(.int .i64 0),(.slice none 0 0),(.slice none 0 0)]),4,64):=(by kernel_rfl);⟨⟨Tryz.underlying41⟩,Xy h rfl,(fun fs h=>⟨_,Tryz.underlying41,by kernel_rfl⟩),fun z hz=>by cases hz⟩
theorem XxA:XbZ 43 ty43:=have h:(Tryz.prog.info? 43).map (fun i=>(i.zero,i.size,i.bytes))=some (some (.agg #[(.slice none 0 0),(.int .i64 0),(.int .i64 0),(.slice none 0 0),(.slice none 0 0)]),5,88):=(by kernel_rfl);⟨⟨Tryz.underlying43⟩,Xy h rfl,(fun fs h=>⟨_,Tryz.underlying43,by kernel_rfl⟩),fun z hz=>by cases hz⟩
theorem Xxz:XbZ 44 ty44:=have h:(Tryz.prog.info? 44).map (fun i=>(i.zero,i.size,i.bytes))=some (some ((.slice none 0 0)),1,24):=(by kernel_rfl);⟨⟨Tryz.underlying44⟩,Xy h rfl,(fun fs h=>by cases h),fun z hz=>by cases hz;exact Xbj h⟩
theorem Xxy:XbZ 46 ty46:=have h:(Tryz.prog.info? 46).map (fun i=>(i.zero,i.size,i.bytes))=some (some (.agg #[(.int .i64 0),(.int .i64 0),(.int .i64 0),(.string .empty),(.slice none 0 0),(.int .i64 0),(.int .i64 0),(.slice none 0 0),(.slice none 0 0),(.slice none 0 0),(.slice none 0 0)]),11,176):=(by kernel_rfl);⟨⟨Tryz.underlying46⟩,Xy h rfl,(fun fs h=>⟨_,Tryz.underlying46,by kernel_rfl⟩),fun z hz=>by cases hz⟩
theorem Xxx:XbZ 47 ty47:=have h:(Tryz.prog.info? 47).map (fun i=>(i.zero,i.size,i.bytes))=some (some ((.slice none 0 0)),1,24):=(by kernel_rfl);⟨⟨Tryz.underlying47⟩,Xy h rfl,(fun fs h=>by cases h),fun z hz=>by cases hz;exact Xbj h⟩
theorem Xxw:XbZ 48 ty48:=have h:(Tryz.prog.info? 48).map (fun i=>(i.zero,i.size,i.bytes))=some (some ((.slice none 0 0)),1,24):=(by kernel_rfl);⟨⟨Tryz.underlying48⟩,Xy h rfl,(fun fs h=>by cases h),fun z hz=>by cases hz;exact Xbj h⟩
theorem Xxv:XbZ 49 ty49:=have h:(Tryz.prog.info? 49).map (fun i=>(i.zero,i.size,i.bytes))=some (some ((.slice none 0 0)),1,24):=(by kernel_rfl);⟨⟨Tryz.underlying49⟩,Xy h rfl,(fun fs h=>by cases h),fun z hz=>by cases hz;exact Xbj h⟩
theorem Xxu:XbZ 51 ty51:=have h:(Tryz.prog.info? 51).map (fun i=>(i.zero,i.size,i.bytes))=some (some (.agg #[(.slice none 0 0),(.slice none 0 0),(.slice none 0 0),(.slice none 0 0)]),4,96):=(by kernel_rfl);⟨⟨Tryz.underlying51⟩,Xy h rfl,(fun fs h=>⟨_,Tryz.underlying51,by kernel_rfl⟩),fun z hz=>by cases hz⟩
theorem Xxt:XbZ 53 ty53:=have h:(Tryz.prog.info? 53).map (fun i=>(i.zero,i.size,i.bytes))=some (some (.agg #[(.slice none 0 0),(.slice none 0 0),(.int .i64 0),(.int .i64 0),(.slice none 0 0),(.slice none 0 0),(.slice none 0 0),(.slice none 0 0),(.slice none 0 0),(.slice none 0 0),(.slice none 0 0)]),11,232):=(by kernel_rfl);⟨⟨Tryz.underlying53⟩,Xy h rfl,(fun fs h=>⟨_,Tryz.underlying53,by kernel_rfl⟩),fun z hz=>by cases hz⟩
theorem Xxs:XbZ 56 ty56:=have h:(Tryz.prog.info? 56).map (fun i=>(i.zero,i.size,i.bytes))=some (some (.agg #[(.int .i64 0),(.int .i64 0),(.int .i64 0)]),3,24):=(by kernel_rfl);⟨⟨Tryz.underlying56⟩,Xy h rfl,(fun fs h=>⟨_,Tryz.underlying56,by kernel_rfl⟩),fun z hz=>by cases hz⟩
theorem Xxr:XbZ 57 ty57:=have h:(Tryz.prog.info? 57).map (fun i=>(i.zero,i.size,i.bytes))=some (some ((.slice none 0 0)),1,24):=(by kernel_rfl);⟨⟨Tryz.underlying57⟩,Xy h rfl,(fun fs h=>by cases h),fun z hz=>by cases hz;exact Xbj h⟩
theorem Xxq:XbZ 78 ty78:=have h:(Tryz.prog.info? 78).map (fun i=>(i.zero,i.size,i.bytes))=some (some ((.pointer none)),1,8):=(by kernel_rfl);⟨⟨Tryz.underlying78⟩,Xy h rfl,(fun fs h=>by cases h),fun z hz=>by cases hz;exact Xbj h⟩
theorem Xxp:XbZ 79 ty79:=have h:(Tryz.prog.info? 79).map (fun i=>(i.zero,i.size,i.bytes))=some (some ((.slice none 0 0)),1,24):=(by kernel_rfl);⟨⟨Tryz.underlying79⟩,Xy h rfl,(fun fs h=>by cases h),fun z hz=>by cases hz;exact Xbj h⟩
theorem Xxo:XbZ 81 ty81:=have h:(Tryz.prog.info? 81).map (fun i=>(i.zero,i.size,i.bytes))=some (some (.agg #[(.pointer none),(.slice none 0 0)]),2,32):=(by kernel_rfl);⟨⟨Tryz.underlying81⟩,Xy h rfl,(fun fs h=>⟨_,Tryz.underlying81,by kernel_rfl⟩),fun z hz=>by cases hz⟩
theorem Xxn:XbZ 92 ty92:=have h:(Tryz.prog.info? 92).map (fun i=>(i.zero,i.size,i.bytes))=some (some ((.slice none 0 0)),1,24):=(by kernel_rfl);⟨⟨Tryz.underlying92⟩,Xy h rfl,(fun fs h=>by cases h),fun z hz=>by cases hz;exact Xbj h⟩
theorem Xxm:XbZ 94 ty94:=have h:(Tryz.prog.info? 94).map (fun i=>(i.zero,i.size,i.bytes))=some (some (.agg #[(.slice none 0 0),(.int .i64 0),(.int .i64 0),(.slice none 0 0),(.slice none 0 0),(.slice none 0 0)]),6,112):=(by kernel_rfl);⟨⟨Tryz.underlying94⟩,Xy h rfl,(fun fs h=>⟨_,Tryz.underlying94,by kernel_rfl⟩),fun z hz=>by cases hz⟩
theorem Xxl:XbZ 96 ty96:=have h:(Tryz.prog.info? 96).map (fun i=>(i.zero,i.size,i.bytes))=some (some (.agg #[(.int .i64 0),(.slice none 0 0),(.int .i64 0),(.int .i64 0),(.slice none 0 0),(.slice none 0 0),(.slice none 0 0)]),7,120):=(by kernel_rfl);⟨⟨Tryz.underlying96⟩,Xy h rfl,(fun fs h=>⟨_,Tryz.underlying96,by kernel_rfl⟩),fun z hz=>by cases hz⟩
theorem Xt2:XbZ 100 Xyc:=have h:(Tryz.prog.info? 100).map (fun i=>(i.zero,i.size,i.bytes))=some (some (.agg #[(.int .i64 0),(.int .i64 0),(.string .empty),(.int .i64 0),(.int .i64 0),(.slice none 0 0)]),6,72):=(by kernel_rfl);⟨⟨Tryz.underlying100⟩,Xy h rfl,(fun fs h=>⟨_,Tryz.underlying100,by kernel_rfl⟩),fun z hz=>by cases hz⟩
theorem Xt1:XbZ 101 Xyb:=have h:(Tryz.prog.info? 101).map (fun i=>(i.zero,i.size,i.bytes))=some (some ((.slice none 0 0)),1,24):=(by kernel_rfl);⟨⟨Tryz.underlying101⟩,Xy h rfl,(fun fs h=>by cases h),fun z hz=>by cases hz;exact Xbj h⟩
theorem Xt0:XbZ 103 Xya:=have h:(Tryz.prog.info? 103).map (fun i=>(i.zero,i.size,i.bytes))=some (some (.agg #[(.int .i64 0),(.slice none 0 0)]),2,32):=(by kernel_rfl);⟨⟨Tryz.underlying103⟩,Xy h rfl,(fun fs h=>⟨_,Tryz.underlying103,by kernel_rfl⟩),fun z hz=>by cases hz⟩
theorem XtZ:XbZ 107 Xx9:=have h:(Tryz.prog.info? 107).map (fun i=>(i.zero,i.size,i.bytes))=some (some ((.pointer none)),1,8):=(by kernel_rfl);⟨⟨Tryz.underlying107⟩,Xy h rfl,(fun fs h=>by cases h),fun z hz=>by cases hz;exact Xbj h⟩
theorem XtY:XbZ 113 Xx8:=have h:(Tryz.prog.info? 113).map (fun i=>(i.zero,i.size,i.bytes))=some (some (.agg #[(.bool false),(.bool false),(.int .i64 0)]),3,16):=(by kernel_rfl);⟨⟨Tryz.underlying113⟩,Xy h rfl,(fun fs h=>⟨_,Tryz.underlying113,by kernel_rfl⟩),fun z hz=>by cases hz⟩
theorem XtX:XbZ 114 Xx7:=have h:(Tryz.prog.info? 114).map (fun i=>(i.zero,i.size,i.bytes))=some (some ((.map none)),1,8):=(by kernel_rfl);⟨⟨Tryz.underlying114⟩,Xy h rfl,(fun fs h=>by cases h),fun z hz=>by cases hz;exact Xbj h⟩
theorem XtW:XbZ 115 Xx6:=have h:(Tryz.prog.info? 115).map (fun i=>(i.zero,i.size,i.bytes))=some (some ((.map none)),1,8):=(by kernel_rfl);⟨⟨Tryz.underlying115⟩,Xy h rfl,(fun fs h=>by cases h),fun z hz=>by cases hz;exact Xbj h⟩
theorem XtV:XbZ 117 Xx5:=have h:(Tryz.prog.info? 117).map (fun i=>(i.zero,i.size,i.bytes))=some (some (.agg #[(.map none),(.map none),(.map none),(.map none),(.map none),(.int .i64 0)]),6,48):=(by kernel_rfl);⟨⟨Tryz.underlying117⟩,Xy h rfl,(fun fs h=>⟨_,Tryz.underlying117,by kernel_rfl⟩),fun z hz=>by cases hz⟩
theorem XtU:XbZ 119 Xx4:=have h:(Tryz.prog.info? 119).map (fun i=>(i.zero,i.size,i.bytes))=some (some (.nilFunc),1,8):=(by kernel_rfl);⟨⟨Tryz.underlying119⟩,Xy h rfl,(fun fs h=>by cases h),fun z hz=>by cases hz;exact Xbj h⟩
theorem XtT:XbZ 120 Xx3:=have h:(Tryz.prog.info? 120).map (fun i=>(i.zero,i.size,i.bytes))=some (some (.nilFunc),1,8):=(by kernel_rfl);⟨⟨Tryz.underlying120⟩,Xy h rfl,(fun fs h=>by cases h),fun z hz=>by cases hz;exact Xbj h⟩
theorem XtS:XbZ 121 Xx2:=have h:(Tryz.prog.info? 121).map (fun i=>(i.zero,i.size,i.bytes))=some (some (.nilFunc),1,8):=(by kernel_rfl);⟨⟨Tryz.underlying121⟩,Xy h rfl,(fun fs h=>by cases h),fun z hz=>by cases hz;exact Xbj h⟩
theorem XtR:XbZ 123 Xx1:=have h:(Tryz.prog.info? 123).map (fun i=>(i.zero,i.size,i.bytes))=some (some (.agg #[.nilFunc,.nilFunc,.nilFunc]),3,24):=(by kernel_rfl);⟨⟨Tryz.underlying123⟩,Xy h rfl,(fun fs h=>⟨_,Tryz.underlying123,by kernel_rfl⟩),fun z hz=>by cases hz⟩
theorem XtQ:XbZ 127 Xx0:=have h:(Tryz.prog.info? 127).map (fun i=>(i.zero,i.size,i.bytes))=some (some (.agg #[(.int .i64 0),(.int .i64 0),(.string .empty),(.int .i64 0)]),4,40):=(by kernel_rfl);⟨⟨Tryz.underlying127⟩,Xy h rfl,(fun fs h=>⟨_,Tryz.underlying127,by kernel_rfl⟩),fun z hz=>by cases hz⟩
theorem XtP:XbZ 133 XxZ:=have h:(Tryz.prog.info? 133).map (fun i=>(i.zero,i.size,i.bytes))=some (some (.agg #[(.int .i64 0),(.string .empty),(.int .i64 0)]),3,32):=(by kernel_rfl);⟨⟨Tryz.underlying133⟩,Xy h rfl,(fun fs h=>⟨_,Tryz.underlying133,by kernel_rfl⟩),fun z hz=>by cases hz⟩
theorem XtO:XbZ 138 XxY:=have h:(Tryz.prog.info? 138).map (fun i=>(i.zero,i.size,i.bytes))=some (some (.agg #[(.int .i64 0),(.int .i64 0),(.string .empty),(.int .i64 0),(.string .empty),(.bool false)]),6,64):=(by kernel_rfl);⟨⟨Tryz.underlying138⟩,Xy h rfl,(fun fs h=>⟨_,Tryz.underlying138,by kernel_rfl⟩),fun z hz=>by cases hz⟩
theorem XtN:XbZ 141 XxX:=have h:(Tryz.prog.info? 141).map (fun i=>(i.zero,i.size,i.bytes))=some (some (.agg #[(.string .empty),(.string .empty)]),2,32):=(by kernel_rfl);⟨⟨Tryz.underlying141⟩,Xy h rfl,(fun fs h=>⟨_,Tryz.underlying141,by kernel_rfl⟩),fun z hz=>by cases hz⟩
theorem XtM:XbZ 170 XxW:=have h:(Tryz.prog.info? 170).map (fun i=>(i.zero,i.size,i.bytes))=some (some ((.pointer none)),1,8):=(by kernel_rfl);⟨⟨Tryz.underlying170⟩,Xy h rfl,(fun fs h=>by cases h),fun z hz=>by cases hz;exact Xbj h⟩
theorem XtL:XbZ 175 XxV:=have h:(Tryz.prog.info? 175).map (fun i=>(i.zero,i.size,i.bytes))=some (some (.agg #[(.slice none 0 0),(.bool false),(.bool false),(.int .i64 0)]),4,40):=(by kernel_rfl);⟨⟨Tryz.underlying175⟩,Xy h rfl,(fun fs h=>⟨_,Tryz.underlying175,by kernel_rfl⟩),fun z hz=>by cases hz⟩
theorem XtK:XbZ 179 XxU:=have h:(Tryz.prog.info? 179).map (fun i=>(i.zero,i.size,i.bytes))=some (some (.nilFunc),1,8):=(by kernel_rfl);⟨⟨Tryz.underlying179⟩,Xy h rfl,(fun fs h=>by cases h),fun z hz=>by cases hz;exact Xbj h⟩
theorem XtJ:XbZ 183 XxT:=have h:(Tryz.prog.info? 183).map (fun i=>(i.zero,i.size,i.bytes))=some (some (.agg #[(.int .i64 0),(.int .i64 0)]),2,16):=(by kernel_rfl);⟨⟨Tryz.underlying183⟩,Xy h rfl,(fun fs h=>⟨_,Tryz.underlying183,by kernel_rfl⟩),fun z hz=>by cases hz⟩
theorem XtI:XbZ 184 XxS:=have h:(Tryz.prog.info? 184).map (fun i=>(i.zero,i.size,i.bytes))=some (some (.nilFunc),1,8):=(by kernel_rfl);⟨⟨Tryz.underlying184⟩,Xy h rfl,(fun fs h=>by cases h),fun z hz=>by cases hz;exact Xbj h⟩
theorem XtH:XbZ 187 XxR:=have h:(Tryz.prog.info? 187).map (fun i=>(i.zero,i.size,i.bytes))=some (some ((.slice none 0 0)),1,24):=(by kernel_rfl);⟨⟨Tryz.underlying187⟩,Xy h rfl,(fun fs h=>by cases h),fun z hz=>by cases hz;exact Xbj h⟩
theorem XtG:XbZ 199 XxQ:=have h:(Tryz.prog.info? 199).map (fun i=>(i.zero,i.size,i.bytes))=some (some (.agg #[(.int .i64 0),(.int .i64 0)]),2,16):=(by kernel_rfl);⟨⟨Tryz.underlying199⟩,Xy h rfl,(fun fs h=>⟨_,Tryz.underlying199,by kernel_rfl⟩),fun z hz=>by cases hz⟩
theorem XtF:XbZ 203 XxP:=have h:(Tryz.prog.info? 203).map (fun i=>(i.zero,i.size,i.bytes))=some (some (.agg #[(.int .i64 0),(.int .i64 0),(.int .i64 0),(.bool false)]),4,32):=(by kernel_rfl);⟨⟨Tryz.underlying203⟩,Xy h rfl,(fun fs h=>⟨_,Tryz.underlying203,by kernel_rfl⟩),fun z hz=>by cases hz⟩
theorem XtE:XbZ 216 XxO:=have h:(Tryz.prog.info? 216).map (fun i=>(i.zero,i.size,i.bytes))=some (some ((.int .u64 0)),1,8):=(by kernel_rfl);⟨⟨Tryz.underlying216⟩,Xy h rfl,(fun fs h=>by cases h),fun z hz=>by cases hz;exact Xbj h⟩
theorem XtD:XbZ 259 XxN:=have h:(Tryz.prog.info? 259).map (fun i=>(i.zero,i.size,i.bytes))=some (some ((.pointer none)),1,8):=(by kernel_rfl);⟨⟨Tryz.underlying259⟩,Xy h rfl,(fun fs h=>by cases h),fun z hz=>by cases hz;exact Xbj h⟩
theorem XtC:XbZ 293 XxM:=have h:(Tryz.prog.info? 293).map (fun i=>(i.zero,i.size,i.bytes))=some (some ((.int .i64 0)),1,8):=(by kernel_rfl);⟨⟨Tryz.underlying293⟩,Xy h rfl,(fun fs h=>by cases h),fun z hz=>by cases hz;exact Xbj h⟩
theorem XtB:XbZ 300 XxL:=have h:(Tryz.prog.info? 300).map (fun i=>(i.zero,i.size,i.bytes))=some (some ((.int .u32 0)),1,4):=(by kernel_rfl);⟨⟨Tryz.underlying300⟩,Xy h rfl,(fun fs h=>by cases h),fun z hz=>by cases hz;exact Xbj h⟩
theorem XtA:XbZ 302 XxK:=have h:(Tryz.prog.info? 302).map (fun i=>(i.zero,i.size,i.bytes))=some (some ((.int .u64 0)),1,8):=(by kernel_rfl);⟨⟨Tryz.underlying302⟩,Xy h rfl,(fun fs h=>by cases h),fun z hz=>by cases hz;exact Xbj h⟩
theorem XBE:Xag 5 Tryz.f5:=⟨Tryz.func5,by kernel_rfl⟩
theorem XBD:Xag 7 Tryz.f7:=⟨Tryz.func7,by kernel_rfl⟩
theorem Xz9:Xag 10 Tryz.f10:=⟨Tryz.func10,by kernel_rfl⟩
theorem Xz8:Xag 13 Tryz.f13:=⟨Tryz.func13,by kernel_rfl⟩
theorem Xz7:Xag 14 Tryz.f14:=⟨Tryz.func14,by kernel_rfl⟩
theorem Xz6:Xag 15 Tryz.f15:=⟨Tryz.func15,by kernel_rfl⟩
theorem Xz5:Xag 18 Tryz.f18:=⟨Tryz.func18,by kernel_rfl⟩
theorem Xz4:Xag 19 Tryz.f19:=⟨Tryz.func19,by kernel_rfl⟩
theorem Xz3:Xag 20 Tryz.f20:=⟨Tryz.func20,by kernel_rfl⟩
theorem Xz2:Xag 21 Tryz.f21:=⟨Tryz.func21,by kernel_rfl⟩
theorem Xz1:Xag 22 Tryz.f22:=⟨Tryz.func22,by kernel_rfl⟩
theorem Xz0:Xag 23 Tryz.f23:=⟨Tryz.func23,by kernel_rfl⟩
theorem XzZ:Xag 28 Tryz.f28:=⟨Tryz.func28,by kernel_rfl⟩
theorem XzY:Xag 32 Tryz.f32:=⟨Tryz.func32,by kernel_rfl⟩
theorem XzX:Xag 33 Tryz.f33:=⟨Tryz.func33,by kernel_rfl⟩
theorem XzW:Xag 36 Tryz.f36:=⟨Tryz.func36,by kernel_rfl⟩
theorem XzV:Xag 37 Tryz.f37:=⟨Tryz.func37,by kernel_rfl⟩
theorem XzU:Xag 38 Tryz.f38:=⟨Tryz.func38,by kernel_rfl⟩
theorem XzT:Xag 39 Tryz.f39:=⟨Tryz.func39,by kernel_rfl⟩
theorem XzS:Xag 40 Tryz.f40:=⟨Tryz.func40,by kernel_rfl⟩
theorem XzR:Xag 41 Tryz.f41:=⟨Tryz.func41,by kernel_rfl⟩
theorem XzQ:Xag 42 Tryz.f42:=⟨Tryz.func42,by kernel_rfl⟩
theorem XzP:Xag 43 Tryz.f43:=⟨Tryz.func43,by kernel_rfl⟩
theorem XzO:Xag 45 Tryz.f45:=⟨Tryz.func45,by kernel_rfl⟩
theorem XzN:Xag 46 Tryz.f46:=⟨Tryz.func46,by kernel_rfl⟩
theorem XzM:Xag 47 Tryz.f47:=⟨Tryz.func47,by kernel_rfl⟩
theorem XzL:Xag 48 Tryz.f48:=⟨Tryz.func48,by kernel_rfl⟩
theorem XzK:Xag 49 Tryz.f49:=⟨Tryz.func49,by kernel_rfl⟩
theorem XzJ:Xag 50 Tryz.f50:=⟨Tryz.func50,by kernel_rfl⟩
theorem XzI:Xag 51 Tryz.f51:=⟨Tryz.func51,by kernel_rfl⟩
theorem XzH:Xag 52 Tryz.f52:=⟨Tryz.func52,by kernel_rfl⟩
theorem XzG:Xag 53 Tryz.f53:=⟨Tryz.func53,by kernel_rfl⟩
theorem XzF:Xag 54 Tryz.f54:=⟨Tryz.func54,by kernel_rfl⟩
theorem XzE:Xag 55 Tryz.f55:=⟨Tryz.func55,by kernel_rfl⟩
theorem XzD:Xag 58 Tryz.f58:=⟨Tryz.func58,by kernel_rfl⟩
theorem XzC:Xag 59 Tryz.f59:=⟨Tryz.func59,by kernel_rfl⟩
theorem XzB:Xag 60 Tryz.f60:=⟨Tryz.func60,by kernel_rfl⟩
theorem XzA:Xag 61 Tryz.f61:=⟨Tryz.func61,by kernel_rfl⟩
theorem Xzz:Xag 62 Tryz.f62:=⟨Tryz.func62,by kernel_rfl⟩
theorem Xzy:Xag 63 Tryz.f63:=⟨Tryz.func63,by kernel_rfl⟩
theorem Xzx:Xag 64 Tryz.f64:=⟨Tryz.func64,by kernel_rfl⟩
theorem Xzw:Xag 65 Tryz.f65:=⟨Tryz.func65,by kernel_rfl⟩
theorem Xzv:Xag 66 Tryz.f66:=⟨Tryz.func66,by kernel_rfl⟩
theorem Xzu:Xag 81 Tryz.f81:=⟨Tryz.func81,by kernel_rfl⟩
theorem Xzt:Xag 82 Tryz.f82:=⟨Tryz.func82,by kernel_rfl⟩
theorem Xzs:Xag 83 Tryz.f83:=⟨Tryz.func83,by kernel_rfl⟩
theorem Xzr:Xag 86 Tryz.f86:=⟨Tryz.func86,by kernel_rfl⟩
theorem Xzq:Xag 89 Tryz.f89:=⟨Tryz.func89,by kernel_rfl⟩
theorem Xzp:Xag 90 Tryz.f90:=⟨Tryz.func90,by kernel_rfl⟩
theorem Xzo:Xag 91 Tryz.f91:=⟨Tryz.func91,by kernel_rfl⟩
theorem Xzn:Xag 92 Tryz.f92:=⟨Tryz.func92,by kernel_rfl⟩
theorem Xzm:Xag 93 Tryz.f93:=⟨Tryz.func93,by kernel_rfl⟩
theorem Xzl:Xag 94 Tryz.f94:=⟨Tryz.func94,by kernel_rfl⟩
theorem Xzk:Xag 95 Tryz.f95:=⟨Tryz.func95,by kernel_rfl⟩
theorem Xzj:Xag 96 Tryz.f96:=⟨Tryz.func96,by kernel_rfl⟩
theorem Xzi:Xag 97 Tryz.f97:=⟨Tryz.func97,by kernel_rfl⟩
theorem Xwl:Xag 100 Tryz.f100:=⟨Tryz.func100,by kernel_rfl⟩
theorem Xwk:Xag 101 Tryz.f101:=⟨Tryz.func101,by kernel_rfl⟩
theorem Xwj:Xag 102 Tryz.f102:=⟨Tryz.func102,by kernel_rfl⟩
theorem Xwi:Xag 104 Tryz.f104:=⟨Tryz.func104,by kernel_rfl⟩
theorem Xwh:Xag 105 Tryz.f105:=⟨Tryz.func105,by kernel_rfl⟩
theorem Xwg:Xag 106 Tryz.f106:=⟨Tryz.func106,by kernel_rfl⟩
theorem Xwf:Xag 107 Tryz.f107:=⟨Tryz.func107,by kernel_rfl⟩
theorem Xwe:Xag 108 Tryz.f108:=⟨Tryz.func108,by kernel_rfl⟩
theorem Xwd:Xag 113 Tryz.f113:=⟨Tryz.func113,by kernel_rfl⟩
theorem Xwc:Xag 114 Tryz.f114:=⟨Tryz.func114,by kernel_rfl⟩
theorem Xwb:Xag 118 Tryz.f118:=⟨Tryz.func118,by kernel_rfl⟩
theorem Xwa:Xag 119 Tryz.f119:=⟨Tryz.func119,by kernel_rfl⟩
theorem Xv9:Xag 120 Tryz.f120:=⟨Tryz.func120,by kernel_rfl⟩
theorem Xv8:Xag 121 Tryz.f121:=⟨Tryz.func121,by kernel_rfl⟩
theorem Xv7:Xag 122 Tryz.f122:=⟨Tryz.func122,by kernel_rfl⟩
theorem Xv6:Xag 123 Tryz.f123:=⟨Tryz.func123,by kernel_rfl⟩
theorem Xv5:Xag 124 Tryz.f124:=⟨Tryz.func124,by kernel_rfl⟩
theorem Xv4:Xag 125 Tryz.f125:=⟨Tryz.func125,by kernel_rfl⟩
theorem Xv3:Xag 126 Tryz.f126:=⟨Tryz.func126,by kernel_rfl⟩
theorem Xv2:Xag 127 Tryz.f127:=⟨Tryz.func127,by kernel_rfl⟩
theorem Xv1:Xag 128 Tryz.f128:=⟨Tryz.func128,by kernel_rfl⟩
theorem Xv0:Xag 129 Tryz.f129:=⟨Tryz.func129,by kernel_rfl⟩
theorem XvZ:Xag 130 Tryz.f130:=⟨Tryz.func130,by kernel_rfl⟩
theorem XvY:Xag 131 Tryz.f131:=⟨Tryz.func131,by kernel_rfl⟩
theorem XvX:Xag 134 Tryz.f134:=⟨Tryz.func134,by kernel_rfl⟩
theorem XvW:Xag 141 Tryz.f141:=⟨Tryz.func141,by kernel_rfl⟩
theorem XvV:Xag 142 Tryz.f142:=⟨Tryz.func142,by kernel_rfl⟩
theorem XvU:Xag 143 Tryz.f143:=⟨Tryz.func143,by kernel_rfl⟩
theorem XvT:Xag 144 Tryz.f144:=⟨Tryz.func144,by kernel_rfl⟩
theorem XvS:Xag 147 Tryz.f147:=⟨Tryz.func147,by kernel_rfl⟩
theorem XvR:Xag 148 Tryz.f148:=⟨Tryz.func148,by kernel_rfl⟩
theorem XvQ:Xag 149 Tryz.f149:=⟨Tryz.func149,by kernel_rfl⟩
theorem XvP:Xag 150 Tryz.f150:=⟨Tryz.func150,by kernel_rfl⟩
theorem XvO:Xag 151 Tryz.f151:=⟨Tryz.func151,by kernel_rfl⟩
theorem XvN:Xag 153 Tryz.f153:=⟨Tryz.func153,by kernel_rfl⟩
theorem XvM:Xag 154 Tryz.f154:=⟨Tryz.func154,by kernel_rfl⟩
theorem XvL:Xag 155 Tryz.f155:=⟨Tryz.func155,by kernel_rfl⟩
theorem XvK:Xag 156 Tryz.f156:=⟨Tryz.func156,by kernel_rfl⟩
theorem XvJ:Xag 159 Tryz.f159:=⟨Tryz.func159,by kernel_rfl⟩
theorem XvI:Xag 160 Tryz.f160:=⟨Tryz.func160,by kernel_rfl⟩
theorem XvH:Xag 161 Tryz.f161:=⟨Tryz.func161,by kernel_rfl⟩
theorem XvG:Xag 162 Tryz.f162:=⟨Tryz.func162,by kernel_rfl⟩
theorem XvF:Xag 163 Tryz.f163:=⟨Tryz.func163,by kernel_rfl⟩
theorem XvE:Xag 180 Tryz.f180:=⟨Tryz.func180,by kernel_rfl⟩
theorem XvD:Xag 181 Tryz.f181:=⟨Tryz.func181,by kernel_rfl⟩
theorem XvC:Xag 183 Tryz.f183:=⟨Tryz.func183,by kernel_rfl⟩
theorem XvB:Xag 184 Tryz.f184:=⟨Tryz.func184,by kernel_rfl⟩
theorem XvA:Xag 185 Tryz.f185:=⟨Tryz.func185,by kernel_rfl⟩
theorem Xvz:Xag 186 Tryz.f186:=⟨Tryz.func186,by kernel_rfl⟩
theorem Xvy:Xag 190 Tryz.f190:=⟨Tryz.func190,by kernel_rfl⟩
theorem Xvx:Xag 191 Tryz.f191:=⟨Tryz.func191,by kernel_rfl⟩
theorem Xvw:Xag 193 Tryz.f193:=⟨Tryz.func193,by kernel_rfl⟩
theorem Xvv:Xag 194 Tryz.f194:=⟨Tryz.func194,by kernel_rfl⟩
theorem Xvu:Xag 204 Tryz.f204:=⟨Tryz.func204,by kernel_rfl⟩
theorem Xvt:Xag 205 Tryz.f205:=⟨Tryz.func205,by kernel_rfl⟩
theorem Xvs:Xag 206 Tryz.f206:=⟨Tryz.func206,by kernel_rfl⟩
theorem Xvr:Xag 218 Tryz.f218:=⟨Tryz.func218,by kernel_rfl⟩
theorem Xvq:Xag 227 Tryz.f227:=⟨Tryz.func227,by kernel_rfl⟩
theorem Xml:Xnd.All XbZ id:=⟨trivial,⟨trivial,⟨XBd,⟨trivial,⟨trivial,⟨trivial,⟨trivial,⟨XtQ,trivial,trivial⟩,trivial⟩,trivial⟩,⟨Xxx,⟨Xxp,trivial,trivial⟩,⟨trivial,⟨XtL,trivial,trivial⟩,trivial⟩⟩⟩,⟨XxI,⟨XxC,⟨trivial,trivial,⟨XtG,trivial,trivial⟩⟩,⟨Xt0,trivial,trivial⟩⟩,⟨trivial,trivial,⟨XtU,⟨XtJ,trivial,trivial⟩,trivial⟩⟩⟩⟩,⟨trivial,⟨trivial,⟨trivial,⟨trivial,⟨trivial,⟨XtD,trivial,trivial⟩,trivial⟩,trivial⟩,trivial⟩,⟨Xxu,trivial,⟨XtW,⟨XtK,trivial,trivial⟩,trivial⟩⟩⟩,⟨trivial,⟨XxA,⟨trivial,trivial,⟨XtF,trivial,trivial⟩⟩,⟨XtZ,trivial,trivial⟩⟩,⟨trivial,trivial,⟨XtR,⟨XtH,trivial,trivial⟩,trivial⟩⟩⟩⟩⟩,⟨XBb,⟨XBa,⟨trivial,trivial,⟨Xxv,⟨Xxo,trivial,trivial⟩,⟨XtY,trivial,trivial⟩⟩⟩,⟨trivial,⟨XxB,trivial,trivial⟩,⟨Xxr,trivial,⟨XtS,trivial,trivial⟩⟩⟩⟩,⟨trivial,⟨trivial,⟨XxE,⟨trivial,⟨XtP,trivial,trivial⟩,trivial⟩,⟨Xt1,⟨trivial,⟨XtC,trivial,trivial⟩,trivial⟩,trivial⟩⟩,⟨Xxt,trivial,⟨XtV,trivial,trivial⟩⟩⟩,⟨XxF,⟨trivial,⟨trivial,⟨XtN,trivial,trivial⟩,trivial⟩,trivial⟩,trivial⟩⟩⟩⟩,⟨trivial,⟨XBc,⟨trivial,⟨trivial,⟨trivial,trivial,⟨Xxl,trivial,trivial⟩⟩,⟨Xxw,trivial,trivial⟩⟩,⟨XxH,trivial,⟨Xxs,⟨trivial,trivial,⟨XtE,trivial,trivial⟩⟩,⟨XtT,⟨XtI,trivial,trivial⟩,trivial⟩⟩⟩⟩,⟨trivial,⟨trivial,⟨trivial,trivial,⟨Xt2,trivial,trivial⟩⟩,trivial⟩,⟨trivial,⟨Xxz,trivial,⟨trivial,⟨trivial,⟨XtB,trivial,trivial⟩,trivial⟩,trivial⟩⟩,⟨trivial,⟨Xxn,trivial,trivial⟩,trivial⟩⟩⟩⟩,⟨trivial,⟨trivial,⟨trivial,trivial,⟨trivial,trivial,⟨XtX,trivial,trivial⟩⟩⟩,⟨XxG,⟨trivial,⟨trivial,⟨XtO,trivial,trivial⟩,trivial⟩,⟨trivial,⟨XtM,trivial,trivial⟩,trivial⟩⟩,trivial⟩⟩,⟨trivial,⟨XxJ,⟨XxD,trivial,trivial⟩,trivial⟩,⟨trivial,⟨Xxy,⟨Xxq,trivial,trivial⟩,⟨trivial,⟨trivial,⟨XtA,trivial,trivial⟩,trivial⟩,trivial⟩⟩,⟨trivial,⟨Xxm,trivial,trivial⟩,trivial⟩⟩⟩⟩⟩⟩
theorem XAa:Xwm.All Xag id:=⟨trivial,⟨trivial,⟨trivial,⟨XBD,⟨Xz6,⟨trivial,⟨Xzy,⟨Xv2,trivial,trivial⟩,⟨Xvx,trivial,trivial⟩⟩,⟨Xzk,⟨XvJ,trivial,trivial⟩,trivial⟩⟩,⟨XzM,⟨trivial,⟨XvU,trivial,trivial⟩,trivial⟩,trivial⟩⟩,⟨Xz0,⟨XzT,trivial,trivial⟩,⟨XzE,⟨trivial,⟨XvO,trivial,trivial⟩,trivial⟩,⟨Xwa,⟨XvC,trivial,trivial⟩,trivial⟩⟩⟩⟩,⟨trivial,⟨Xz4,⟨trivial,⟨trivial,⟨XvY,trivial,trivial⟩,trivial⟩,⟨trivial,⟨XvF,trivial,trivial⟩,⟨Xvq,trivial,trivial⟩⟩⟩,⟨XzI,⟨Xzs,⟨XvS,trivial,trivial⟩,trivial⟩,trivial⟩⟩,⟨trivial,⟨XzP,trivial,⟨Xwf,trivial,trivial⟩⟩,⟨XzC,⟨Xzo,⟨XvL,trivial,trivial⟩,trivial⟩,⟨Xv6,trivial,trivial⟩⟩⟩⟩⟩,⟨XBE,⟨trivial,⟨trivial,⟨XzX,⟨Xzw,⟨Xv0,trivial,trivial⟩,⟨Xvw,trivial,trivial⟩⟩,⟨Xzi,⟨XvH,trivial,trivial⟩,trivial⟩⟩,⟨XzK,⟨Xzu,trivial,trivial⟩,⟨Xwd,trivial,trivial⟩⟩⟩,⟨trivial,⟨XzR,trivial,⟨Xwh,trivial,trivial⟩⟩,⟨trivial,⟨Xzq,⟨XvN,trivial,trivial⟩,trivial⟩,⟨Xv8,⟨XvA,trivial,trivial⟩,trivial⟩⟩⟩⟩,⟨Xz8,⟨Xz2,⟨XzV,trivial,⟨Xwk,trivial,trivial⟩⟩,⟨XzG,⟨trivial,⟨XvQ,trivial,trivial⟩,trivial⟩,⟨trivial,⟨XvD,trivial,trivial⟩,trivial⟩⟩⟩,⟨trivial,⟨XzO,⟨trivial,⟨XvW,trivial,trivial⟩,⟨Xvt,trivial,trivial⟩⟩,trivial⟩,⟨XzA,⟨Xzm,trivial,trivial⟩,⟨Xv4,trivial,trivial⟩⟩⟩⟩⟩⟩,⟨trivial,⟨trivial,⟨trivial,⟨trivial,⟨XzY,⟨Xzx,⟨Xv1,trivial,trivial⟩,trivial⟩,⟨Xzj,⟨XvI,trivial,trivial⟩,trivial⟩⟩,⟨XzL,⟨trivial,⟨XvT,trivial,trivial⟩,trivial⟩,trivial⟩⟩,⟨trivial,⟨XzS,trivial,⟨Xwi,trivial,trivial⟩⟩,⟨trivial,trivial,⟨Xv9,⟨XvB,trivial,trivial⟩,trivial⟩⟩⟩⟩,⟨trivial,⟨Xz3,⟨XzW,trivial,⟨Xwl,trivial,trivial⟩⟩,⟨XzH,⟨trivial,⟨XvR,trivial,trivial⟩,trivial⟩,⟨trivial,⟨XvE,trivial,trivial⟩,trivial⟩⟩⟩,⟨XzZ,⟨trivial,⟨trivial,trivial,⟨Xvu,trivial,trivial⟩⟩,⟨Xwe,trivial,trivial⟩⟩,⟨XzB,⟨Xzn,⟨XvK,trivial,trivial⟩,trivial⟩,⟨Xv5,trivial,trivial⟩⟩⟩⟩⟩,⟨trivial,⟨Xz9,⟨Xz5,⟨trivial,⟨Xzv,⟨XvZ,trivial,trivial⟩,⟨Xvv,trivial,trivial⟩⟩,⟨trivial,⟨XvG,trivial,trivial⟩,trivial⟩⟩,⟨XzJ,⟨Xzt,trivial,trivial⟩,⟨Xwc,trivial,trivial⟩⟩⟩,⟨trivial,⟨XzQ,trivial,⟨Xwg,trivial,trivial⟩⟩,⟨XzD,⟨Xzp,⟨XvM,trivial,trivial⟩,⟨Xvr,trivial,trivial⟩⟩,⟨Xv7,⟨Xvz,trivial,trivial⟩,trivial⟩⟩⟩⟩,⟨Xz7,⟨Xz1,⟨XzU,⟨trivial,⟨XvX,trivial,trivial⟩,trivial⟩,⟨Xwj,trivial,trivial⟩⟩,⟨XzF,⟨Xzr,⟨XvP,trivial,trivial⟩,trivial⟩,⟨Xwb,trivial,trivial⟩⟩⟩,⟨trivial,⟨XzN,⟨trivial,⟨XvV,trivial,trivial⟩,⟨Xvs,trivial,trivial⟩⟩,trivial⟩,⟨Xzz,⟨Xzl,trivial,trivial⟩,⟨Xv3,⟨Xvy,trivial,trivial⟩,trivial⟩⟩⟩⟩⟩⟩⟩
theorem XyI:Tryz.prog.follows .mixedOrders=true:=by kernel_rfl
theorem Xyd:tab.Ok:=⟨fun t i h=>⟨(BT.all_get Xnd id t i Xml h).1,(BT.all_get Xnd id t i Xml h).2.1,(BT.all_get Xnd id t i Xml h).2.2.1⟩,fun f fn h=>BT.all_get Xwm id f fn XAa h,XyI,fun t i h=>(BT.all_get Xnd id t i Xml h).2.2.2,fun g hg v w=>by have hg:=Nat.eq_of_beq_eq_true hg;subst hg;show (callFunc 189 #[v]).run Tryz.prog w=_;rw [run_callFunc_extern Tryz.func189 (by kernel_rfl) (by kernel_rfl) (by kernel_rfl) (e:=Extern.AbiNoEscape.same) (by kernel_rfl)];rfl⟩
end Go.Proofs.YtlcphjcpoinolaaGreat
namespace Go.Proofs.YtlcphjcpoinolaaGreat
open Go Go.Ev Go.Proofs Go.RowKit
noncomputable def Xlp:Option (PV × St):=(evN tab 3000).call 5 [] ⟨⟨0,.leaf⟩,[]⟩
noncomputable def Xs9:Option (PV × St)→Bool
  | some (.v (.bool b),_)=>b
  | _=>false
theorem Xke:Xs9 Xlp=true:=by kernel_rfl
theorem XnJ:∃ s,Xlp=some (.v (.bool true),s):=by
  have h:=Xke
  generalize Xlp=k at h
  unfold Xs9 at h
  split at h
  · exact ⟨_,by rw [h]⟩
  · cases h
theorem XiU (w:World):Calls Tryz.prog 5 #[] w fun e w'=>e=.returned (.bool true)∧Below w.heap.size w w':=by
  obtain ⟨s,h⟩:=XnJ
  exact XkK Xyd h w
end Go.Proofs.YtlcphjcpoinolaaGreat
