/- The types of this seat, as the laws of operations ask for them: printed by inst.py. -/
import Derived.Test.YtpmfnjkcoogicaaGreatProg
import Derived.Test.YtpmfnjkcoogicaaGreatThB
import Derived.KernelRfl
namespace Go.Proofs.YtpmfnjkcoogicaaGreat
open Go.Th

theorem mixed : Tryz.prog.follows .mixedOrders = true := by kernel_rfl
/- 3: int -/
instance : HasU Tryz.prog 3 (.int .i64) := HasU.mk Tryz.underlying3
theorem info3 : (Tryz.prog.info? 3).map (fun i => (i.zero, i.size, i.bytes)) = some (some ((.int .i64 0)), 1, 8) := by kernel_rfl
instance : HasI Tryz.prog 3 1 8 [(.int .i64 0)] := HasI.mk_of info3 rfl
/- 4: bool -/
instance : HasU Tryz.prog 4 (.bool) := HasU.mk Tryz.underlying4
theorem info4 : (Tryz.prog.info? 4).map (fun i => (i.zero, i.size, i.bytes)) = some (some ((.bool false)), 1, 1) := by kernel_rfl
instance : HasI Tryz.prog 4 1 1 [(.bool false)] := HasI.mk_of info4 rfl
/- 5: uint8 -/
instance : HasU Tryz.prog 5 (.int .u8) := HasU.mk Tryz.underlying5
theorem info5 : (Tryz.prog.info? 5).map (fun i => (i.zero, i.size, i.bytes)) = some (some ((.int .u8 0)), 1, 1) := by kernel_rfl
instance : HasI Tryz.prog 5 1 1 [(.int .u8 0)] := HasI.mk_of info5 rfl
/- 9: string -/
instance : HasU Tryz.prog 9 (.string) := HasU.mk Tryz.underlying9
theorem info9 : (Tryz.prog.info? 9).map (fun i => (i.zero, i.size, i.bytes)) = some (some ((.string .empty)), 1, 16) := by kernel_rfl
instance : HasI Tryz.prog 9 1 16 [(.string .empty)] := HasI.mk_of info9 rfl
/- 22: []api.Item -/
instance : HasU Tryz.prog 22 (.slice 45) := HasU.mk Tryz.underlying22
theorem info22 : (Tryz.prog.info? 22).map (fun i => (i.zero, i.size, i.bytes)) = some (some ((.slice none 0 0)), 1, 24) := by kernel_rfl
instance : HasI Tryz.prog 22 1 24 [(.slice none 0 0)] := HasI.mk_of info22 rfl
/- 23: []api.Row -/
instance : HasU Tryz.prog 23 (.slice 43) := HasU.mk Tryz.underlying23
theorem info23 : (Tryz.prog.info? 23).map (fun i => (i.zero, i.size, i.bytes)) = some (some ((.slice none 0 0)), 1, 24) := by kernel_rfl
instance : HasI Tryz.prog 23 1 24 [(.slice none 0 0)] := HasI.mk_of info23 rfl
/- 24: []api.Cell -/
instance : HasU Tryz.prog 24 (.slice 59) := HasU.mk Tryz.underlying24
theorem info24 : (Tryz.prog.info? 24).map (fun i => (i.zero, i.size, i.bytes)) = some (some ((.slice none 0 0)), 1, 24) := by kernel_rfl
instance : HasI Tryz.prog 24 1 24 [(.slice none 0 0)] := HasI.mk_of info24 rfl
/- 25: []api.Style -/
instance : HasU Tryz.prog 25 (.slice 120) := HasU.mk Tryz.underlying25
theorem info25 : (Tryz.prog.info? 25).map (fun i => (i.zero, i.size, i.bytes)) = some (some ((.slice none 0 0)), 1, 24) := by kernel_rfl
instance : HasI Tryz.prog 25 1 24 [(.slice none 0 0)] := HasI.mk_of info25 rfl
/- 26: []api.List -/
instance : HasU Tryz.prog 26 (.slice 78) := HasU.mk Tryz.underlying26
theorem info26 : (Tryz.prog.info? 26).map (fun i => (i.zero, i.size, i.bytes)) = some (some ((.slice none 0 0)), 1, 24) := by kernel_rfl
instance : HasI Tryz.prog 26 1 24 [(.slice none 0 0)] := HasI.mk_of info26 rfl
/- 27: []api.Comment -/
instance : HasU Tryz.prog 27 (.slice 91) := HasU.mk Tryz.underlying27
theorem info27 : (Tryz.prog.info? 27).map (fun i => (i.zero, i.size, i.bytes)) = some (some ((.slice none 0 0)), 1, 24) := by kernel_rfl
instance : HasI Tryz.prog 27 1 24 [(.slice none 0 0)] := HasI.mk_of info27 rfl
/- 28: []api.Var -/
instance : HasU Tryz.prog 28 (.slice 94) := HasU.mk Tryz.underlying28
theorem info28 : (Tryz.prog.info? 28).map (fun i => (i.zero, i.size, i.bytes)) = some (some ((.slice none 0 0)), 1, 24) := by kernel_rfl
instance : HasI Tryz.prog 28 1 24 [(.slice none 0 0)] := HasI.mk_of info28 rfl
/- 30: api.Settings -/
instance : HasU Tryz.prog 30 (.struct #[{ name := "Styles", type := 25, offset := 0, embedded := false, tag := "", pkgPath := "", byteOffset := 0 }, { name := "Lists", type := 26, offset := 1, embedded := false, tag := "", pkgPath := "", byteOffset := 24 }, { name := "Comments", type := 27, offset := 2, embedded := false, tag := "", pkgPath := "", byteOffset := 48 }, { name := "Vars", type := 28, offset := 3, embedded := false, tag := "", pkgPath := "", byteOffset := 72 }]) := HasU.mk Tryz.underlying30
theorem info30 : (Tryz.prog.info? 30).map (fun i => (i.zero, i.size, i.bytes)) = some (some (.agg #[(.slice none 0 0), (.slice none 0 0), (.slice none 0 0), (.slice none 0 0)]), 4, 96) := by kernel_rfl
instance : HasI Tryz.prog 30 4 96 [(.slice none 0 0), (.slice none 0 0), (.slice none 0 0), (.slice none 0 0)] := HasI.mk_of info30 rfl
instance : HasB Tryz.prog 30 [(0, 1), (1, 1), (2, 1), (3, 1)] := ⟨_, Tryz.underlying30, by kernel_rfl⟩
/- 32: api.Edit -/
instance : HasU Tryz.prog 32 (.struct #[{ name := "Kind", type := 3, offset := 0, embedded := false, tag := "", pkgPath := "", byteOffset := 0 }, { name := "Flow", type := 3, offset := 1, embedded := false, tag := "", pkgPath := "", byteOffset := 8 }, { name := "At", type := 3, offset := 2, embedded := false, tag := "", pkgPath := "", byteOffset := 16 }, { name := "Count", type := 3, offset := 3, embedded := false, tag := "", pkgPath := "", byteOffset := 24 }, { name := "Sub", type := 3, offset := 4, embedded := false, tag := "", pkgPath := "", byteOffset := 32 }, { name := "To", type := 3, offset := 5, embedded := false, tag := "", pkgPath := "", byteOffset := 40 }, { name := "ToAt", type := 3, offset := 6, embedded := false, tag := "", pkgPath := "", byteOffset := 48 }, { name := "Fresh", type := 3, offset := 7, embedded := false, tag := "", pkgPath := "", byteOffset := 56 }, { name := "Key", type := 3, offset := 8, embedded := false, tag := "", pkgPath := "", byteOffset := 64 }, { name := "Value", type := 3, offset := 9, embedded := false, tag := "", pkgPath := "", byteOffset := 72 }, { name := "Clear", type := 4, offset := 10, embedded := false, tag := "", pkgPath := "", byteOffset := 80 }, { name := "Items", type := 22, offset := 11, embedded := false, tag := "", pkgPath := "", byteOffset := 88 }, { name := "Rows", type := 23, offset := 12, embedded := false, tag := "", pkgPath := "", byteOffset := 112 }, { name := "Cells", type := 24, offset := 13, embedded := false, tag := "", pkgPath := "", byteOffset := 136 }, { name := "Settings", type := 30, offset := 14, embedded := false, tag := "", pkgPath := "", byteOffset := 160 }]) := HasU.mk Tryz.underlying32
theorem info32 : (Tryz.prog.info? 32).map (fun i => (i.zero, i.size, i.bytes)) = some (some (.agg #[(.int .i64 0), (.int .i64 0), (.int .i64 0), (.int .i64 0), (.int .i64 0), (.int .i64 0), (.int .i64 0), (.int .i64 0), (.int .i64 0), (.int .i64 0), (.bool false), (.slice none 0 0), (.slice none 0 0), (.slice none 0 0), (.slice none 0 0), (.slice none 0 0), (.slice none 0 0), (.slice none 0 0)]), 18, 256) := by kernel_rfl
instance : HasI Tryz.prog 32 18 256 [(.int .i64 0), (.int .i64 0), (.int .i64 0), (.int .i64 0), (.int .i64 0), (.int .i64 0), (.int .i64 0), (.int .i64 0), (.int .i64 0), (.int .i64 0), (.bool false), (.slice none 0 0), (.slice none 0 0), (.slice none 0 0), (.slice none 0 0), (.slice none 0 0), (.slice none 0 0), (.slice none 0 0)] := HasI.mk_of info32 rfl
instance : HasB Tryz.prog 32 [(0, 1), (1, 1), (2, 1), (3, 1), (4, 1), (5, 1), (6, 1), (7, 1), (8, 1), (9, 1), (10, 1), (11, 1), (12, 1), (13, 1), (14, 4)] := ⟨_, Tryz.underlying32, by kernel_rfl⟩
/- 35: []api.Prop -/
instance : HasU Tryz.prog 35 (.slice 123) := HasU.mk Tryz.underlying35
theorem info35 : (Tryz.prog.info? 35).map (fun i => (i.zero, i.size, i.bytes)) = some (some ((.slice none 0 0)), 1, 24) := by kernel_rfl
instance : HasI Tryz.prog 35 1 24 [(.slice none 0 0)] := HasI.mk_of info35 rfl
/- 36: []api.Del -/
instance : HasU Tryz.prog 36 (.slice 126) := HasU.mk Tryz.underlying36
theorem info36 : (Tryz.prog.info? 36).map (fun i => (i.zero, i.size, i.bytes)) = some (some ((.slice none 0 0)), 1, 24) := by kernel_rfl
instance : HasI Tryz.prog 36 1 24 [(.slice none 0 0)] := HasI.mk_of info36 rfl
/- 37: []api.Layer -/
instance : HasU Tryz.prog 37 (.slice 129) := HasU.mk Tryz.underlying37
theorem info37 : (Tryz.prog.info? 37).map (fun i => (i.zero, i.size, i.bytes)) = some (some ((.slice none 0 0)), 1, 24) := by kernel_rfl
instance : HasI Tryz.prog 37 1 24 [(.slice none 0 0)] := HasI.mk_of info37 rfl
/- 39: api.Marks -/
instance : HasU Tryz.prog 39 (.struct #[{ name := "Ins", type := 3, offset := 0, embedded := false, tag := "", pkgPath := "", byteOffset := 0 }, { name := "Move", type := 3, offset := 1, embedded := false, tag := "", pkgPath := "", byteOffset := 8 }, { name := "Dels", type := 36, offset := 2, embedded := false, tag := "", pkgPath := "", byteOffset := 16 }, { name := "Layers", type := 37, offset := 3, embedded := false, tag := "", pkgPath := "", byteOffset := 40 }]) := HasU.mk Tryz.underlying39
theorem info39 : (Tryz.prog.info? 39).map (fun i => (i.zero, i.size, i.bytes)) = some (some (.agg #[(.int .i64 0), (.int .i64 0), (.slice none 0 0), (.slice none 0 0)]), 4, 64) := by kernel_rfl
instance : HasI Tryz.prog 39 4 64 [(.int .i64 0), (.int .i64 0), (.slice none 0 0), (.slice none 0 0)] := HasI.mk_of info39 rfl
instance : HasB Tryz.prog 39 [(0, 1), (1, 1), (2, 1), (3, 1)] := ⟨_, Tryz.underlying39, by kernel_rfl⟩
/- 41: api.Head -/
instance : HasU Tryz.prog 41 (.struct #[{ name := "Props", type := 35, offset := 0, embedded := false, tag := "", pkgPath := "", byteOffset := 0 }, { name := "Marks", type := 39, offset := 1, embedded := false, tag := "", pkgPath := "", byteOffset := 24 }]) := HasU.mk Tryz.underlying41
theorem info41 : (Tryz.prog.info? 41).map (fun i => (i.zero, i.size, i.bytes)) = some (some (.agg #[(.slice none 0 0), (.int .i64 0), (.int .i64 0), (.slice none 0 0), (.slice none 0 0)]), 5, 88) := by kernel_rfl
instance : HasI Tryz.prog 41 5 88 [(.slice none 0 0), (.int .i64 0), (.int .i64 0), (.slice none 0 0), (.slice none 0 0)] := HasI.mk_of info41 rfl
instance : HasB Tryz.prog 41 [(0, 1), (1, 4)] := ⟨_, Tryz.underlying41, by kernel_rfl⟩
/- 43: api.Row -/
instance : HasU Tryz.prog 43 (.struct #[{ name := "Head", type := 41, offset := 0, embedded := false, tag := "", pkgPath := "", byteOffset := 0 }, { name := "Cells", type := 24, offset := 5, embedded := false, tag := "", pkgPath := "", byteOffset := 88 }]) := HasU.mk Tryz.underlying43
theorem info43 : (Tryz.prog.info? 43).map (fun i => (i.zero, i.size, i.bytes)) = some (some (.agg #[(.slice none 0 0), (.int .i64 0), (.int .i64 0), (.slice none 0 0), (.slice none 0 0), (.slice none 0 0)]), 6, 112) := by kernel_rfl
instance : HasI Tryz.prog 43 6 112 [(.slice none 0 0), (.int .i64 0), (.int .i64 0), (.slice none 0 0), (.slice none 0 0), (.slice none 0 0)] := HasI.mk_of info43 rfl
instance : HasB Tryz.prog 43 [(0, 5), (5, 1)] := ⟨_, Tryz.underlying43, by kernel_rfl⟩
/- 45: api.Item -/
instance : HasU Tryz.prog 45 (.struct #[{ name := "Kind", type := 3, offset := 0, embedded := false, tag := "", pkgPath := "", byteOffset := 0 }, { name := "Code", type := 3, offset := 1, embedded := false, tag := "", pkgPath := "", byteOffset := 8 }, { name := "Id", type := 3, offset := 2, embedded := false, tag := "", pkgPath := "", byteOffset := 16 }, { name := "Text", type := 9, offset := 3, embedded := false, tag := "", pkgPath := "", byteOffset := 24 }, { name := "Head", type := 41, offset := 4, embedded := false, tag := "", pkgPath := "", byteOffset := 40 }, { name := "Flow", type := 22, offset := 9, embedded := false, tag := "", pkgPath := "", byteOffset := 128 }, { name := "Rows", type := 23, offset := 10, embedded := false, tag := "", pkgPath := "", byteOffset := 152 }]) := HasU.mk Tryz.underlying45
theorem info45 : (Tryz.prog.info? 45).map (fun i => (i.zero, i.size, i.bytes)) = some (some (.agg #[(.int .i64 0), (.int .i64 0), (.int .i64 0), (.string .empty), (.slice none 0 0), (.int .i64 0), (.int .i64 0), (.slice none 0 0), (.slice none 0 0), (.slice none 0 0), (.slice none 0 0)]), 11, 176) := by kernel_rfl
instance : HasI Tryz.prog 45 11 176 [(.int .i64 0), (.int .i64 0), (.int .i64 0), (.string .empty), (.slice none 0 0), (.int .i64 0), (.int .i64 0), (.slice none 0 0), (.slice none 0 0), (.slice none 0 0), (.slice none 0 0)] := HasI.mk_of info45 rfl
instance : HasB Tryz.prog 45 [(0, 1), (1, 1), (2, 1), (3, 1), (4, 5), (9, 1), (10, 1)] := ⟨_, Tryz.underlying45, by kernel_rfl⟩
/- 49: []api.Rev -/
instance : HasU Tryz.prog 49 (.slice 86) := HasU.mk Tryz.underlying49
theorem info49 : (Tryz.prog.info? 49).map (fun i => (i.zero, i.size, i.bytes)) = some (some ((.slice none 0 0)), 1, 24) := by kernel_rfl
instance : HasI Tryz.prog 49 1 24 [(.slice none 0 0)] := HasI.mk_of info49 rfl
/- 51: api.Document -/
instance : HasU Tryz.prog 51 (.struct #[{ name := "Flow", type := 22, offset := 0, embedded := false, tag := "", pkgPath := "", byteOffset := 0 }, { name := "End", type := 41, offset := 1, embedded := false, tag := "", pkgPath := "", byteOffset := 24 }, { name := "Revs", type := 49, offset := 6, embedded := false, tag := "", pkgPath := "", byteOffset := 112 }, { name := "Settings", type := 30, offset := 7, embedded := false, tag := "", pkgPath := "", byteOffset := 136 }]) := HasU.mk Tryz.underlying51
theorem info51 : (Tryz.prog.info? 51).map (fun i => (i.zero, i.size, i.bytes)) = some (some (.agg #[(.slice none 0 0), (.slice none 0 0), (.int .i64 0), (.int .i64 0), (.slice none 0 0), (.slice none 0 0), (.slice none 0 0), (.slice none 0 0), (.slice none 0 0), (.slice none 0 0), (.slice none 0 0)]), 11, 232) := by kernel_rfl
instance : HasI Tryz.prog 51 11 232 [(.slice none 0 0), (.slice none 0 0), (.int .i64 0), (.int .i64 0), (.slice none 0 0), (.slice none 0 0), (.slice none 0 0), (.slice none 0 0), (.slice none 0 0), (.slice none 0 0), (.slice none 0 0)] := HasI.mk_of info51 rfl
instance : HasB Tryz.prog 51 [(0, 1), (1, 5), (6, 1), (7, 4)] := ⟨_, Tryz.underlying51, by kernel_rfl⟩
/- 53: []int -/
instance : HasU Tryz.prog 53 (.slice 3) := HasU.mk Tryz.underlying53
theorem info53 : (Tryz.prog.info? 53).map (fun i => (i.zero, i.size, i.bytes)) = some (some ((.slice none 0 0)), 1, 24) := by kernel_rfl
instance : HasI Tryz.prog 53 1 24 [(.slice none 0 0)] := HasI.mk_of info53 rfl
/- 59: api.Cell -/
instance : HasU Tryz.prog 59 (.struct #[{ name := "Id", type := 3, offset := 0, embedded := false, tag := "", pkgPath := "", byteOffset := 0 }, { name := "Head", type := 41, offset := 1, embedded := false, tag := "", pkgPath := "", byteOffset := 8 }, { name := "Flow", type := 22, offset := 6, embedded := false, tag := "", pkgPath := "", byteOffset := 96 }]) := HasU.mk Tryz.underlying59
theorem info59 : (Tryz.prog.info? 59).map (fun i => (i.zero, i.size, i.bytes)) = some (some (.agg #[(.int .i64 0), (.slice none 0 0), (.int .i64 0), (.int .i64 0), (.slice none 0 0), (.slice none 0 0), (.slice none 0 0)]), 7, 120) := by kernel_rfl
instance : HasI Tryz.prog 59 7 120 [(.int .i64 0), (.slice none 0 0), (.int .i64 0), (.int .i64 0), (.slice none 0 0), (.slice none 0 0), (.slice none 0 0)] := HasI.mk_of info59 rfl
instance : HasB Tryz.prog 59 [(0, 1), (1, 5), (6, 1)] := ⟨_, Tryz.underlying59, by kernel_rfl⟩
/- 60: []string -/
instance : HasU Tryz.prog 60 (.slice 9) := HasU.mk Tryz.underlying60
theorem info60 : (Tryz.prog.info? 60).map (fun i => (i.zero, i.size, i.bytes)) = some (some ((.slice none 0 0)), 1, 24) := by kernel_rfl
instance : HasI Tryz.prog 60 1 24 [(.slice none 0 0)] := HasI.mk_of info60 rfl
/- 61: api.Errno -/
instance : HasU Tryz.prog 61 (.int .i64) := HasU.mk Tryz.underlying61
theorem info61 : (Tryz.prog.info? 61).map (fun i => (i.zero, i.size, i.bytes)) = some (some ((.int .i64 0)), 1, 8) := by kernel_rfl
instance : HasI Tryz.prog 61 1 8 [(.int .i64 0)] := HasI.mk_of info61 rfl
/- 66: func(int) bool -/
/- 76: []api.Level -/
instance : HasU Tryz.prog 76 (.slice 81) := HasU.mk Tryz.underlying76
theorem info76 : (Tryz.prog.info? 76).map (fun i => (i.zero, i.size, i.bytes)) = some (some ((.slice none 0 0)), 1, 24) := by kernel_rfl
instance : HasI Tryz.prog 76 1 24 [(.slice none 0 0)] := HasI.mk_of info76 rfl
/- 78: api.List -/
instance : HasU Tryz.prog 78 (.struct #[{ name := "Id", type := 3, offset := 0, embedded := false, tag := "", pkgPath := "", byteOffset := 0 }, { name := "Levels", type := 76, offset := 1, embedded := false, tag := "", pkgPath := "", byteOffset := 8 }]) := HasU.mk Tryz.underlying78
theorem info78 : (Tryz.prog.info? 78).map (fun i => (i.zero, i.size, i.bytes)) = some (some (.agg #[(.int .i64 0), (.slice none 0 0)]), 2, 32) := by kernel_rfl
instance : HasI Tryz.prog 78 2 32 [(.int .i64 0), (.slice none 0 0)] := HasI.mk_of info78 rfl
instance : HasB Tryz.prog 78 [(0, 1), (1, 1)] := ⟨_, Tryz.underlying78, by kernel_rfl⟩
/- 81: api.Level -/
instance : HasU Tryz.prog 81 (.struct #[{ name := "Format", type := 3, offset := 0, embedded := false, tag := "", pkgPath := "", byteOffset := 0 }, { name := "Start", type := 3, offset := 1, embedded := false, tag := "", pkgPath := "", byteOffset := 8 }, { name := "Template", type := 9, offset := 2, embedded := false, tag := "", pkgPath := "", byteOffset := 16 }, { name := "Restart", type := 3, offset := 3, embedded := false, tag := "", pkgPath := "", byteOffset := 32 }]) := HasU.mk Tryz.underlying81
theorem info81 : (Tryz.prog.info? 81).map (fun i => (i.zero, i.size, i.bytes)) = some (some (.agg #[(.int .i64 0), (.int .i64 0), (.string .empty), (.int .i64 0)]), 4, 40) := by kernel_rfl
instance : HasI Tryz.prog 81 4 40 [(.int .i64 0), (.int .i64 0), (.string .empty), (.int .i64 0)] := HasI.mk_of info81 rfl
instance : HasB Tryz.prog 81 [(0, 1), (1, 1), (2, 1), (3, 1)] := ⟨_, Tryz.underlying81, by kernel_rfl⟩
/- 86: api.Rev -/
instance : HasU Tryz.prog 86 (.struct #[{ name := "Id", type := 3, offset := 0, embedded := false, tag := "", pkgPath := "", byteOffset := 0 }, { name := "Author", type := 9, offset := 1, embedded := false, tag := "", pkgPath := "", byteOffset := 8 }, { name := "Time", type := 3, offset := 2, embedded := false, tag := "", pkgPath := "", byteOffset := 24 }]) := HasU.mk Tryz.underlying86
theorem info86 : (Tryz.prog.info? 86).map (fun i => (i.zero, i.size, i.bytes)) = some (some (.agg #[(.int .i64 0), (.string .empty), (.int .i64 0)]), 3, 32) := by kernel_rfl
instance : HasI Tryz.prog 86 3 32 [(.int .i64 0), (.string .empty), (.int .i64 0)] := HasI.mk_of info86 rfl
instance : HasB Tryz.prog 86 [(0, 1), (1, 1), (2, 1)] := ⟨_, Tryz.underlying86, by kernel_rfl⟩
/- 91: api.Comment -/
instance : HasU Tryz.prog 91 (.struct #[{ name := "Id", type := 3, offset := 0, embedded := false, tag := "", pkgPath := "", byteOffset := 0 }, { name := "Parent", type := 3, offset := 1, embedded := false, tag := "", pkgPath := "", byteOffset := 8 }, { name := "Author", type := 9, offset := 2, embedded := false, tag := "", pkgPath := "", byteOffset := 16 }, { name := "Time", type := 3, offset := 3, embedded := false, tag := "", pkgPath := "", byteOffset := 32 }, { name := "Text", type := 9, offset := 4, embedded := false, tag := "", pkgPath := "", byteOffset := 40 }, { name := "Done", type := 4, offset := 5, embedded := false, tag := "", pkgPath := "", byteOffset := 56 }]) := HasU.mk Tryz.underlying91
theorem info91 : (Tryz.prog.info? 91).map (fun i => (i.zero, i.size, i.bytes)) = some (some (.agg #[(.int .i64 0), (.int .i64 0), (.string .empty), (.int .i64 0), (.string .empty), (.bool false)]), 6, 64) := by kernel_rfl
instance : HasI Tryz.prog 91 6 64 [(.int .i64 0), (.int .i64 0), (.string .empty), (.int .i64 0), (.string .empty), (.bool false)] := HasI.mk_of info91 rfl
instance : HasB Tryz.prog 91 [(0, 1), (1, 1), (2, 1), (3, 1), (4, 1), (5, 1)] := ⟨_, Tryz.underlying91, by kernel_rfl⟩
/- 94: api.Var -/
instance : HasU Tryz.prog 94 (.struct #[{ name := "Name", type := 9, offset := 0, embedded := false, tag := "", pkgPath := "", byteOffset := 0 }, { name := "Value", type := 9, offset := 1, embedded := false, tag := "", pkgPath := "", byteOffset := 16 }]) := HasU.mk Tryz.underlying94
theorem info94 : (Tryz.prog.info? 94).map (fun i => (i.zero, i.size, i.bytes)) = some (some (.agg #[(.string .empty), (.string .empty)]), 2, 32) := by kernel_rfl
instance : HasI Tryz.prog 94 2 32 [(.string .empty), (.string .empty)] := HasI.mk_of info94 rfl
instance : HasB Tryz.prog 94 [(0, 1), (1, 1)] := ⟨_, Tryz.underlying94, by kernel_rfl⟩
/- 107: edit.sort -/
instance : HasU Tryz.prog 107 (.struct #[{ name := "word", type := 9, offset := 0, embedded := false, tag := "", pkgPath := "obelus/edit", byteOffset := 0 }, { name := "uses", type := 3, offset := 1, embedded := false, tag := "", pkgPath := "obelus/edit", byteOffset := 16 }, { name := "table", type := 4, offset := 2, embedded := false, tag := "", pkgPath := "obelus/edit", byteOffset := 24 }]) := HasU.mk Tryz.underlying107
theorem info107 : (Tryz.prog.info? 107).map (fun i => (i.zero, i.size, i.bytes)) = some (some (.agg #[(.string .empty), (.int .i64 0), (.bool false)]), 3, 32) := by kernel_rfl
instance : HasI Tryz.prog 107 3 32 [(.string .empty), (.int .i64 0), (.bool false)] := HasI.mk_of info107 rfl
instance : HasB Tryz.prog 107 [(0, 1), (1, 1), (2, 1)] := ⟨_, Tryz.underlying107, by kernel_rfl⟩
/- 108: []edit.sort -/
instance : HasU Tryz.prog 108 (.slice 107) := HasU.mk Tryz.underlying108
theorem info108 : (Tryz.prog.info? 108).map (fun i => (i.zero, i.size, i.bytes)) = some (some ((.slice none 0 0)), 1, 24) := by kernel_rfl
instance : HasI Tryz.prog 108 1 24 [(.slice none 0 0)] := HasI.mk_of info108 rfl
/- 112: *edit.work -/
instance : HasU Tryz.prog 112 (.pointer 139) := HasU.mk Tryz.underlying112
theorem info112 : (Tryz.prog.info? 112).map (fun i => (i.zero, i.size, i.bytes)) = some (some ((.pointer none)), 1, 8) := by kernel_rfl
instance : HasI Tryz.prog 112 1 8 [(.pointer none)] := HasI.mk_of info112 rfl
/- 118: *int -/
instance : HasU Tryz.prog 118 (.pointer 3) := HasU.mk Tryz.underlying118
theorem info118 : (Tryz.prog.info? 118).map (fun i => (i.zero, i.size, i.bytes)) = some (some ((.pointer none)), 1, 8) := by kernel_rfl
instance : HasI Tryz.prog 118 1 8 [(.pointer none)] := HasI.mk_of info118 rfl
/- 120: api.Style -/
instance : HasU Tryz.prog 120 (.struct #[{ name := "Id", type := 3, offset := 0, embedded := false, tag := "", pkgPath := "", byteOffset := 0 }, { name := "Kind", type := 3, offset := 1, embedded := false, tag := "", pkgPath := "", byteOffset := 8 }, { name := "Name", type := 9, offset := 2, embedded := false, tag := "", pkgPath := "", byteOffset := 16 }, { name := "Base", type := 3, offset := 3, embedded := false, tag := "", pkgPath := "", byteOffset := 32 }, { name := "Next", type := 3, offset := 4, embedded := false, tag := "", pkgPath := "", byteOffset := 40 }, { name := "Props", type := 35, offset := 5, embedded := false, tag := "", pkgPath := "", byteOffset := 48 }]) := HasU.mk Tryz.underlying120
theorem info120 : (Tryz.prog.info? 120).map (fun i => (i.zero, i.size, i.bytes)) = some (some (.agg #[(.int .i64 0), (.int .i64 0), (.string .empty), (.int .i64 0), (.int .i64 0), (.slice none 0 0)]), 6, 72) := by kernel_rfl
instance : HasI Tryz.prog 120 6 72 [(.int .i64 0), (.int .i64 0), (.string .empty), (.int .i64 0), (.int .i64 0), (.slice none 0 0)] := HasI.mk_of info120 rfl
instance : HasB Tryz.prog 120 [(0, 1), (1, 1), (2, 1), (3, 1), (4, 1), (5, 1)] := ⟨_, Tryz.underlying120, by kernel_rfl⟩
/- 123: api.Prop -/
instance : HasU Tryz.prog 123 (.struct #[{ name := "Key", type := 3, offset := 0, embedded := false, tag := "", pkgPath := "", byteOffset := 0 }, { name := "Value", type := 3, offset := 1, embedded := false, tag := "", pkgPath := "", byteOffset := 8 }]) := HasU.mk Tryz.underlying123
theorem info123 : (Tryz.prog.info? 123).map (fun i => (i.zero, i.size, i.bytes)) = some (some (.agg #[(.int .i64 0), (.int .i64 0)]), 2, 16) := by kernel_rfl
instance : HasI Tryz.prog 123 2 16 [(.int .i64 0), (.int .i64 0)] := HasI.mk_of info123 rfl
instance : HasB Tryz.prog 123 [(0, 1), (1, 1)] := ⟨_, Tryz.underlying123, by kernel_rfl⟩
/- 126: api.Del -/
instance : HasU Tryz.prog 126 (.struct #[{ name := "Rev", type := 3, offset := 0, embedded := false, tag := "", pkgPath := "", byteOffset := 0 }, { name := "Move", type := 3, offset := 1, embedded := false, tag := "", pkgPath := "", byteOffset := 8 }]) := HasU.mk Tryz.underlying126
theorem info126 : (Tryz.prog.info? 126).map (fun i => (i.zero, i.size, i.bytes)) = some (some (.agg #[(.int .i64 0), (.int .i64 0)]), 2, 16) := by kernel_rfl
instance : HasI Tryz.prog 126 2 16 [(.int .i64 0), (.int .i64 0)] := HasI.mk_of info126 rfl
instance : HasB Tryz.prog 126 [(0, 1), (1, 1)] := ⟨_, Tryz.underlying126, by kernel_rfl⟩
/- 129: api.Layer -/
instance : HasU Tryz.prog 129 (.struct #[{ name := "Rev", type := 3, offset := 0, embedded := false, tag := "", pkgPath := "", byteOffset := 0 }, { name := "Key", type := 3, offset := 1, embedded := false, tag := "", pkgPath := "", byteOffset := 8 }, { name := "Before", type := 3, offset := 2, embedded := false, tag := "", pkgPath := "", byteOffset := 16 }, { name := "Had", type := 4, offset := 3, embedded := false, tag := "", pkgPath := "", byteOffset := 24 }]) := HasU.mk Tryz.underlying129
theorem info129 : (Tryz.prog.info? 129).map (fun i => (i.zero, i.size, i.bytes)) = some (some (.agg #[(.int .i64 0), (.int .i64 0), (.int .i64 0), (.bool false)]), 4, 32) := by kernel_rfl
instance : HasI Tryz.prog 129 4 32 [(.int .i64 0), (.int .i64 0), (.int .i64 0), (.bool false)] := HasI.mk_of info129 rfl
instance : HasB Tryz.prog 129 [(0, 1), (1, 1), (2, 1), (3, 1)] := ⟨_, Tryz.underlying129, by kernel_rfl⟩
/- 139: edit.work -/
instance : HasU Tryz.prog 139 (.struct #[{ name := "d", type := 51, offset := 0, embedded := false, tag := "", pkgPath := "obelus/edit", byteOffset := 0 }, { name := "e", type := 32, offset := 11, embedded := false, tag := "", pkgPath := "obelus/edit", byteOffset := 232 }, { name := "l", type := 22, offset := 29, embedded := false, tag := "", pkgPath := "obelus/edit", byteOffset := 488 }, { name := "n", type := 3, offset := 30, embedded := false, tag := "", pkgPath := "obelus/edit", byteOffset := 512 }, { name := "rows", type := 23, offset := 31, embedded := false, tag := "", pkgPath := "obelus/edit", byteOffset := 520 }]) := HasU.mk Tryz.underlying139
theorem info139 : (Tryz.prog.info? 139).map (fun i => (i.zero, i.size, i.bytes)) = some (some (.agg #[(.slice none 0 0), (.slice none 0 0), (.int .i64 0), (.int .i64 0), (.slice none 0 0), (.slice none 0 0), (.slice none 0 0), (.slice none 0 0), (.slice none 0 0), (.slice none 0 0), (.slice none 0 0), (.int .i64 0), (.int .i64 0), (.int .i64 0), (.int .i64 0), (.int .i64 0), (.int .i64 0), (.int .i64 0), (.int .i64 0), (.int .i64 0), (.int .i64 0), (.bool false), (.slice none 0 0), (.slice none 0 0), (.slice none 0 0), (.slice none 0 0), (.slice none 0 0), (.slice none 0 0), (.slice none 0 0), (.slice none 0 0), (.int .i64 0), (.slice none 0 0)]), 32, 544) := by kernel_rfl
instance : HasI Tryz.prog 139 32 544 [(.slice none 0 0), (.slice none 0 0), (.int .i64 0), (.int .i64 0), (.slice none 0 0), (.slice none 0 0), (.slice none 0 0), (.slice none 0 0), (.slice none 0 0), (.slice none 0 0), (.slice none 0 0), (.int .i64 0), (.int .i64 0), (.int .i64 0), (.int .i64 0), (.int .i64 0), (.int .i64 0), (.int .i64 0), (.int .i64 0), (.int .i64 0), (.int .i64 0), (.bool false), (.slice none 0 0), (.slice none 0 0), (.slice none 0 0), (.slice none 0 0), (.slice none 0 0), (.slice none 0 0), (.slice none 0 0), (.slice none 0 0), (.int .i64 0), (.slice none 0 0)] := HasI.mk_of info139 rfl
instance : HasB Tryz.prog 139 [(0, 11), (11, 18), (29, 1), (30, 1), (31, 1)] := ⟨_, Tryz.underlying139, by kernel_rfl⟩
/- 185: api.Pos -/
instance : HasU Tryz.prog 185 (.struct #[{ name := "Flow", type := 3, offset := 0, embedded := false, tag := "", pkgPath := "", byteOffset := 0 }, { name := "At", type := 3, offset := 1, embedded := false, tag := "", pkgPath := "", byteOffset := 8 }]) := HasU.mk Tryz.underlying185
theorem info185 : (Tryz.prog.info? 185).map (fun i => (i.zero, i.size, i.bytes)) = some (some (.agg #[(.int .i64 0), (.int .i64 0)]), 2, 16) := by kernel_rfl
instance : HasI Tryz.prog 185 2 16 [(.int .i64 0), (.int .i64 0)] := HasI.mk_of info185 rfl
instance : HasB Tryz.prog 185 [(0, 1), (1, 1)] := ⟨_, Tryz.underlying185, by kernel_rfl⟩
/- 190: document.place -/
instance : HasU Tryz.prog 190 (.struct #[{ name := "body", type := 4, offset := 0, embedded := false, tag := "", pkgPath := "obelus/document", byteOffset := 0 }, { name := "note", type := 4, offset := 1, embedded := false, tag := "", pkgPath := "obelus/document", byteOffset := 1 }, { name := "tables", type := 3, offset := 2, embedded := false, tag := "", pkgPath := "obelus/document", byteOffset := 8 }]) := HasU.mk Tryz.underlying190
theorem info190 : (Tryz.prog.info? 190).map (fun i => (i.zero, i.size, i.bytes)) = some (some (.agg #[(.bool false), (.bool false), (.int .i64 0)]), 3, 16) := by kernel_rfl
instance : HasI Tryz.prog 190 3 16 [(.bool false), (.bool false), (.int .i64 0)] := HasI.mk_of info190 rfl
instance : HasB Tryz.prog 190 [(0, 1), (1, 1), (2, 1)] := ⟨_, Tryz.underlying190, by kernel_rfl⟩
/- 192: document.flow -/
instance : HasU Tryz.prog 192 (.struct #[{ name := "items", type := 22, offset := 0, embedded := false, tag := "", pkgPath := "obelus/document", byteOffset := 0 }, { name := "at", type := 190, offset := 1, embedded := false, tag := "", pkgPath := "obelus/document", byteOffset := 24 }]) := HasU.mk Tryz.underlying192
theorem info192 : (Tryz.prog.info? 192).map (fun i => (i.zero, i.size, i.bytes)) = some (some (.agg #[(.slice none 0 0), (.bool false), (.bool false), (.int .i64 0)]), 4, 40) := by kernel_rfl
instance : HasI Tryz.prog 192 4 40 [(.slice none 0 0), (.bool false), (.bool false), (.int .i64 0)] := HasI.mk_of info192 rfl
instance : HasB Tryz.prog 192 [(0, 1), (1, 3)] := ⟨_, Tryz.underlying192, by kernel_rfl⟩
/- 194: []api.Errno -/
instance : HasU Tryz.prog 194 (.slice 61) := HasU.mk Tryz.underlying194
theorem info194 : (Tryz.prog.info? 194).map (fun i => (i.zero, i.size, i.bytes)) = some (some ((.slice none 0 0)), 1, 24) := by kernel_rfl
instance : HasI Tryz.prog 194 1 24 [(.slice none 0 0)] := HasI.mk_of info194 rfl
/- 195: *document.checker -/
instance : HasU Tryz.prog 195 (.pointer 200) := HasU.mk Tryz.underlying195
theorem info195 : (Tryz.prog.info? 195).map (fun i => (i.zero, i.size, i.bytes)) = some (some ((.pointer none)), 1, 8) := by kernel_rfl
instance : HasI Tryz.prog 195 1 8 [(.pointer none)] := HasI.mk_of info195 rfl
/- 197: map[int]int -/
instance : HasU Tryz.prog 197 (.map 3 3) := HasU.mk Tryz.underlying197
theorem info197 : (Tryz.prog.info? 197).map (fun i => (i.zero, i.size, i.bytes)) = some (some ((.map none)), 1, 8) := by kernel_rfl
instance : HasI Tryz.prog 197 1 8 [(.map none)] := HasI.mk_of info197 rfl
/- 198: map[int]bool -/
instance : HasU Tryz.prog 198 (.map 3 4) := HasU.mk Tryz.underlying198
theorem info198 : (Tryz.prog.info? 198).map (fun i => (i.zero, i.size, i.bytes)) = some (some ((.map none)), 1, 8) := by kernel_rfl
instance : HasI Tryz.prog 198 1 8 [(.map none)] := HasI.mk_of info198 rfl
/- 200: document.checker -/
instance : HasU Tryz.prog 200 (.struct #[{ name := "styles", type := 197, offset := 0, embedded := false, tag := "", pkgPath := "obelus/document", byteOffset := 0 }, { name := "lists", type := 198, offset := 1, embedded := false, tag := "", pkgPath := "obelus/document", byteOffset := 8 }, { name := "revs", type := 198, offset := 2, embedded := false, tag := "", pkgPath := "obelus/document", byteOffset := 16 }, { name := "before", type := 198, offset := 3, embedded := false, tag := "", pkgPath := "obelus/document", byteOffset := 24 }, { name := "used", type := 198, offset := 4, embedded := false, tag := "", pkgPath := "obelus/document", byteOffset := 32 }, { name := "units", type := 3, offset := 5, embedded := false, tag := "", pkgPath := "obelus/document", byteOffset := 40 }]) := HasU.mk Tryz.underlying200
theorem info200 : (Tryz.prog.info? 200).map (fun i => (i.zero, i.size, i.bytes)) = some (some (.agg #[(.map none), (.map none), (.map none), (.map none), (.map none), (.int .i64 0)]), 6, 48) := by kernel_rfl
instance : HasI Tryz.prog 200 6 48 [(.map none), (.map none), (.map none), (.map none), (.map none), (.int .i64 0)] := HasI.mk_of info200 rfl
instance : HasB Tryz.prog 200 [(0, 1), (1, 1), (2, 1), (3, 1), (4, 1), (5, 1)] := ⟨_, Tryz.underlying200, by kernel_rfl⟩
/- 256: func(api.Pos, api.Item) bool -/
/- 264: property.key -/
instance : HasU Tryz.prog 264 (.struct #[{ name := "number", type := 3, offset := 0, embedded := false, tag := "", pkgPath := "obelus/property", byteOffset := 0 }, { name := "group", type := 3, offset := 1, embedded := false, tag := "", pkgPath := "obelus/property", byteOffset := 8 }, { name := "low", type := 3, offset := 2, embedded := false, tag := "", pkgPath := "obelus/property", byteOffset := 16 }, { name := "high", type := 3, offset := 3, embedded := false, tag := "", pkgPath := "obelus/property", byteOffset := 24 }, { name := "standard", type := 3, offset := 4, embedded := false, tag := "", pkgPath := "obelus/property", byteOffset := 32 }, { name := "name", type := 9, offset := 5, embedded := false, tag := "", pkgPath := "obelus/property", byteOffset := 40 }]) := HasU.mk Tryz.underlying264
theorem info264 : (Tryz.prog.info? 264).map (fun i => (i.zero, i.size, i.bytes)) = some (some (.agg #[(.int .i64 0), (.int .i64 0), (.int .i64 0), (.int .i64 0), (.int .i64 0), (.string .empty)]), 6, 56) := by kernel_rfl
instance : HasI Tryz.prog 264 6 56 [(.int .i64 0), (.int .i64 0), (.int .i64 0), (.int .i64 0), (.int .i64 0), (.string .empty)] := HasI.mk_of info264 rfl
instance : HasB Tryz.prog 264 [(0, 1), (1, 1), (2, 1), (3, 1), (4, 1), (5, 1)] := ⟨_, Tryz.underlying264, by kernel_rfl⟩
/- 271: uint -/
instance : HasU Tryz.prog 271 (.int .u64) := HasU.mk Tryz.underlying271
theorem info271 : (Tryz.prog.info? 271).map (fun i => (i.zero, i.size, i.bytes)) = some (some ((.int .u64 0)), 1, 8) := by kernel_rfl
instance : HasI Tryz.prog 271 1 8 [(.int .u64 0)] := HasI.mk_of info271 rfl
/- 295: [][]api.Item -/
instance : HasU Tryz.prog 295 (.slice 22) := HasU.mk Tryz.underlying295
theorem info295 : (Tryz.prog.info? 295).map (fun i => (i.zero, i.size, i.bytes)) = some (some ((.slice none 0 0)), 1, 24) := by kernel_rfl
instance : HasI Tryz.prog 295 1 24 [(.slice none 0 0)] := HasI.mk_of info295 rfl
/- 313: []property.key -/
instance : HasU Tryz.prog 313 (.slice 264) := HasU.mk Tryz.underlying313
theorem info313 : (Tryz.prog.info? 313).map (fun i => (i.zero, i.size, i.bytes)) = some (some ((.slice none 0 0)), 1, 24) := by kernel_rfl
instance : HasI Tryz.prog 313 1 24 [(.slice none 0 0)] := HasI.mk_of info313 rfl
/- 332: []leveltext.Part -/
instance : HasU Tryz.prog 332 (.slice 337) := HasU.mk Tryz.underlying332
theorem info332 : (Tryz.prog.info? 332).map (fun i => (i.zero, i.size, i.bytes)) = some (some ((.slice none 0 0)), 1, 24) := by kernel_rfl
instance : HasI Tryz.prog 332 1 24 [(.slice none 0 0)] := HasI.mk_of info332 rfl
/- 337: leveltext.Part -/
instance : HasU Tryz.prog 337 (.struct #[{ name := "Literal", type := 9, offset := 0, embedded := false, tag := "", pkgPath := "", byteOffset := 0 }, { name := "Level", type := 3, offset := 1, embedded := false, tag := "", pkgPath := "", byteOffset := 16 }, { name := "Plain", type := 4, offset := 2, embedded := false, tag := "", pkgPath := "", byteOffset := 24 }]) := HasU.mk Tryz.underlying337
theorem info337 : (Tryz.prog.info? 337).map (fun i => (i.zero, i.size, i.bytes)) = some (some (.agg #[(.string .empty), (.int .i64 0), (.bool false)]), 3, 32) := by kernel_rfl
instance : HasI Tryz.prog 337 3 32 [(.string .empty), (.int .i64 0), (.bool false)] := HasI.mk_of info337 rfl
instance : HasB Tryz.prog 337 [(0, 1), (1, 1), (2, 1)] := ⟨_, Tryz.underlying337, by kernel_rfl⟩
/- 342: slices.sortedHint -/
instance : HasU Tryz.prog 342 (.int .i64) := HasU.mk Tryz.underlying342
theorem info342 : (Tryz.prog.info? 342).map (fun i => (i.zero, i.size, i.bytes)) = some (some ((.int .i64 0)), 1, 8) := by kernel_rfl
instance : HasI Tryz.prog 342 1 8 [(.int .i64 0)] := HasI.mk_of info342 rfl
/- 349: uint32 -/
instance : HasU Tryz.prog 349 (.int .u32) := HasU.mk Tryz.underlying349
theorem info349 : (Tryz.prog.info? 349).map (fun i => (i.zero, i.size, i.bytes)) = some (some ((.int .u32 0)), 1, 4) := by kernel_rfl
instance : HasI Tryz.prog 349 1 4 [(.int .u32 0)] := HasI.mk_of info349 rfl
/- 351: uint64 -/
instance : HasU Tryz.prog 351 (.int .u64) := HasU.mk Tryz.underlying351
theorem info351 : (Tryz.prog.info? 351).map (fun i => (i.zero, i.size, i.bytes)) = some (some ((.int .u64 0)), 1, 8) := by kernel_rfl
instance : HasI Tryz.prog 351 1 8 [(.int .u64 0)] := HasI.mk_of info351 rfl
/- 355: []uint8 -/
instance : HasU Tryz.prog 355 (.slice 5) := HasU.mk Tryz.underlying355
theorem info355 : (Tryz.prog.info? 355).map (fun i => (i.zero, i.size, i.bytes)) = some (some ((.slice none 0 0)), 1, 24) := by kernel_rfl
instance : HasI Tryz.prog 355 1 24 [(.slice none 0 0)] := HasI.mk_of info355 rfl
/- 358: *strings.Builder -/
instance : HasU Tryz.prog 358 (.pointer 360) := HasU.mk Tryz.underlying358
theorem info358 : (Tryz.prog.info? 358).map (fun i => (i.zero, i.size, i.bytes)) = some (some ((.pointer none)), 1, 8) := by kernel_rfl
instance : HasI Tryz.prog 358 1 8 [(.pointer none)] := HasI.mk_of info358 rfl
/- 360: strings.Builder -/
instance : HasU Tryz.prog 360 (.struct #[{ name := "addr", type := 358, offset := 0, embedded := false, tag := "", pkgPath := "strings", byteOffset := 0 }, { name := "buf", type := 355, offset := 1, embedded := false, tag := "", pkgPath := "strings", byteOffset := 8 }]) := HasU.mk Tryz.underlying360
theorem info360 : (Tryz.prog.info? 360).map (fun i => (i.zero, i.size, i.bytes)) = some (some (.agg #[(.pointer none), (.slice none 0 0)]), 2, 32) := by kernel_rfl
instance : HasI Tryz.prog 360 2 32 [(.pointer none), (.slice none 0 0)] := HasI.mk_of info360 rfl
instance : HasB Tryz.prog 360 [(0, 1), (1, 1)] := ⟨_, Tryz.underlying360, by kernel_rfl⟩
/- 362: leveltext.scanner -/
instance : HasU Tryz.prog 362 (.struct #[{ name := "s", type := 9, offset := 0, embedded := false, tag := "", pkgPath := "obelus/leveltext", byteOffset := 0 }, { name := "at", type := 3, offset := 1, embedded := false, tag := "", pkgPath := "obelus/leveltext", byteOffset := 16 }, { name := "literal", type := 360, offset := 2, embedded := false, tag := "", pkgPath := "obelus/leveltext", byteOffset := 24 }, { name := "parts", type := 332, offset := 4, embedded := false, tag := "", pkgPath := "obelus/leveltext", byteOffset := 56 }, { name := "places", type := 3, offset := 5, embedded := false, tag := "", pkgPath := "obelus/leveltext", byteOffset := 80 }, { name := "e", type := 61, offset := 6, embedded := false, tag := "", pkgPath := "obelus/leveltext", byteOffset := 88 }]) := HasU.mk Tryz.underlying362
theorem info362 : (Tryz.prog.info? 362).map (fun i => (i.zero, i.size, i.bytes)) = some (some (.agg #[(.string .empty), (.int .i64 0), (.pointer none), (.slice none 0 0), (.slice none 0 0), (.int .i64 0), (.int .i64 0)]), 7, 96) := by kernel_rfl
instance : HasI Tryz.prog 362 7 96 [(.string .empty), (.int .i64 0), (.pointer none), (.slice none 0 0), (.slice none 0 0), (.int .i64 0), (.int .i64 0)] := HasI.mk_of info362 rfl
instance : HasB Tryz.prog 362 [(0, 1), (1, 1), (2, 2), (4, 1), (5, 1), (6, 1)] := ⟨_, Tryz.underlying362, by kernel_rfl⟩
/- 365: slices.xorshift -/
instance : HasU Tryz.prog 365 (.int .u64) := HasU.mk Tryz.underlying365
theorem info365 : (Tryz.prog.info? 365).map (fun i => (i.zero, i.size, i.bytes)) = some (some ((.int .u64 0)), 1, 8) := by kernel_rfl
instance : HasI Tryz.prog 365 1 8 [(.int .u64 0)] := HasI.mk_of info365 rfl
/- 383: unsafe.Pointer -/
/- 385: *uint8 -/
instance : HasU Tryz.prog 385 (.pointer 5) := HasU.mk Tryz.underlying385
theorem info385 : (Tryz.prog.info? 385).map (fun i => (i.zero, i.size, i.bytes)) = some (some ((.pointer none)), 1, 8) := by kernel_rfl
instance : HasI Tryz.prog 385 1 8 [(.pointer none)] := HasI.mk_of info385 rfl
end Go.Proofs.YtpmfnjkcoogicaaGreat
