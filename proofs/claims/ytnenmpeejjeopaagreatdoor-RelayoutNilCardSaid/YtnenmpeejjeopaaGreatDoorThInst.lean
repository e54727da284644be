/- The types of this seat, as the laws of operations ask for them: printed by inst.py. -/
import Derived.Test.YtnenmpeejjeopaaGreatDoorProg
import Derived.Test.YtnenmpeejjeopaaGreatDoorThB
import Derived.KernelRfl
namespace Go.Proofs.YtnenmpeejjeopaaGreatDoor
open Go.Th

theorem mixed : Tryz.prog.follows .mixedOrders = true := by kernel_rfl
/- 3: int -/
instance : HasU Tryz.prog 3 (.int .i64) := HasU.mk Tryz.underlying3
theorem info3 : (Tryz.prog.info? 3).map (fun i => (i.zero, i.size, i.bytes)) = some (some ((.int .i64 0)), 1, 8) := by kernel_rfl
instance : HasI Tryz.prog 3 1 8 [(.int .i64 0)] := HasI.mk_of info3 rfl
/- 4: bool -/
instance : HasU Tryz.prog 4 (.bool) := HasU.mk Tryz.underlying4
theorem info4 : (Tryz.prog.info? 4).map (fun i => (i.zero, i.size, i.bytes)) = some (some ((.bool false)), 1, 1) := by kernel_rfl
instance : HasI Tryz.prog 4 1 1 [(.bool false)] := HasI.mk_of info4 rfl
/- 5: uint8 -/
instance : HasU Tryz.prog 5 (.int .u8) := HasU.mk Tryz.underlying5
theorem info5 : (Tryz.prog.info? 5).map (fun i => (i.zero, i.size, i.bytes)) = some (some ((.int .u8 0)), 1, 1) := by kernel_rfl
instance : HasI Tryz.prog 5 1 1 [(.int .u8 0)] := HasI.mk_of info5 rfl
/- 6: abi.BoundsErrorCode -/
instance : HasU Tryz.prog 6 (.int .u8) := HasU.mk Tryz.underlying6
theorem info6 : (Tryz.prog.info? 6).map (fun i => (i.zero, i.size, i.bytes)) = some (some ((.int .u8 0)), 1, 1) := by kernel_rfl
instance : HasI Tryz.prog 6 1 1 [(.int .u8 0)] := HasI.mk_of info6 rfl
/- 9: string -/
instance : HasU Tryz.prog 9 (.string) := HasU.mk Tryz.underlying9
theorem info9 : (Tryz.prog.info? 9).map (fun i => (i.zero, i.size, i.bytes)) = some (some ((.string .empty)), 1, 16) := by kernel_rfl
instance : HasI Tryz.prog 9 1 16 [(.string .empty)] := HasI.mk_of info9 rfl
/- 22: *relayout.Layout -/
instance : HasU Tryz.prog 22 (.pointer 65) := HasU.mk Tryz.underlying22
theorem info22 : (Tryz.prog.info? 22).map (fun i => (i.zero, i.size, i.bytes)) = some (some ((.pointer none)), 1, 8) := by kernel_rfl
instance : HasI Tryz.prog 22 1 8 [(.pointer none)] := HasI.mk_of info22 rfl
/- 23: api.Errno -/
instance : HasU Tryz.prog 23 (.int .i64) := HasU.mk Tryz.underlying23
theorem info23 : (Tryz.prog.info? 23).map (fun i => (i.zero, i.size, i.bytes)) = some (some ((.int .i64 0)), 1, 8) := by kernel_rfl
instance : HasI Tryz.prog 23 1 8 [(.int .i64 0)] := HasI.mk_of info23 rfl
/- 26: []paginate.Slot -/
instance : HasU Tryz.prog 26 (.slice 117) := HasU.mk Tryz.underlying26
theorem info26 : (Tryz.prog.info? 26).map (fun i => (i.zero, i.size, i.bytes)) = some (some ((.slice none 0 0)), 1, 24) := by kernel_rfl
instance : HasI Tryz.prog 26 1 24 [(.slice none 0 0)] := HasI.mk_of info26 rfl
/- 28: paginate.Page -/
instance : HasU Tryz.prog 28 (.struct #[{ name := "Section", type := 3, offset := 0, embedded := false, tag := "", pkgPath := "", byteOffset := 0 }, { name := "Number", type := 3, offset := 1, embedded := false, tag := "", pkgPath := "", byteOffset := 8 }, { name := "Label", type := 9, offset := 2, embedded := false, tag := "", pkgPath := "", byteOffset := 16 }, { name := "Width", type := 3, offset := 3, embedded := false, tag := "", pkgPath := "", byteOffset := 32 }, { name := "Height", type := 3, offset := 4, embedded := false, tag := "", pkgPath := "", byteOffset := 40 }, { name := "Slots", type := 26, offset := 5, embedded := false, tag := "", pkgPath := "", byteOffset := 48 }, { name := "Feet", type := 26, offset := 6, embedded := false, tag := "", pkgPath := "", byteOffset := 72 }, { name := "Used", type := 3, offset := 7, embedded := false, tag := "", pkgPath := "", byteOffset := 96 }, { name := "Over", type := 3, offset := 8, embedded := false, tag := "", pkgPath := "", byteOffset := 104 }]) := HasU.mk Tryz.underlying28
theorem info28 : (Tryz.prog.info? 28).map (fun i => (i.zero, i.size, i.bytes)) = some (some (.agg #[(.int .i64 0), (.int .i64 0), (.string .empty), (.int .i64 0), (.int .i64 0), (.slice none 0 0), (.slice none 0 0), (.int .i64 0), (.int .i64 0)]), 9, 112) := by kernel_rfl
instance : HasI Tryz.prog 28 9 112 [(.int .i64 0), (.int .i64 0), (.string .empty), (.int .i64 0), (.int .i64 0), (.slice none 0 0), (.slice none 0 0), (.int .i64 0), (.int .i64 0)] := HasI.mk_of info28 rfl
instance : HasB Tryz.prog 28 [(0, 1), (1, 1), (2, 1), (3, 1), (4, 1), (5, 1), (6, 1), (7, 1), (8, 1)] := ⟨_, Tryz.underlying28, by kernel_rfl⟩
/- 32: relayout.Report -/
instance : HasU Tryz.prog 32 (.struct #[{ name := "Same", type := 3, offset := 0, embedded := false, tag := "", pkgPath := "", byteOffset := 0 }, { name := "Old", type := 3, offset := 1, embedded := false, tag := "", pkgPath := "", byteOffset := 8 }, { name := "New", type := 3, offset := 2, embedded := false, tag := "", pkgPath := "", byteOffset := 16 }, { name := "Filled", type := 3, offset := 3, embedded := false, tag := "", pkgPath := "", byteOffset := 24 }]) := HasU.mk Tryz.underlying32
theorem info32 : (Tryz.prog.info? 32).map (fun i => (i.zero, i.size, i.bytes)) = some (some (.agg #[(.int .i64 0), (.int .i64 0), (.int .i64 0), (.int .i64 0)]), 4, 32) := by kernel_rfl
instance : HasI Tryz.prog 32 4 32 [(.int .i64 0), (.int .i64 0), (.int .i64 0), (.int .i64 0)] := HasI.mk_of info32 rfl
instance : HasB Tryz.prog 32 [(0, 1), (1, 1), (2, 1), (3, 1)] := ⟨_, Tryz.underlying32, by kernel_rfl⟩
/- 35: []api.Item -/
instance : HasU Tryz.prog 35 (.slice 97) := HasU.mk Tryz.underlying35
theorem info35 : (Tryz.prog.info? 35).map (fun i => (i.zero, i.size, i.bytes)) = some (some ((.slice none 0 0)), 1, 24) := by kernel_rfl
instance : HasI Tryz.prog 35 1 24 [(.slice none 0 0)] := HasI.mk_of info35 rfl
/- 36: []api.Prop -/
instance : HasU Tryz.prog 36 (.slice 136) := HasU.mk Tryz.underlying36
theorem info36 : (Tryz.prog.info? 36).map (fun i => (i.zero, i.size, i.bytes)) = some (some ((.slice none 0 0)), 1, 24) := by kernel_rfl
instance : HasI Tryz.prog 36 1 24 [(.slice none 0 0)] := HasI.mk_of info36 rfl
/- 42: api.Head -/
instance : HasU Tryz.prog 42 (.struct #[{ name := "Props", type := 36, offset := 0, embedded := false, tag := "", pkgPath := "", byteOffset := 0 }, { name := "Marks", type := 40, offset := 1, embedded := false, tag := "", pkgPath := "", byteOffset := 24 }]) := HasU.mk Tryz.underlying42
theorem info42 : (Tryz.prog.info? 42).map (fun i => (i.zero, i.size, i.bytes)) = some (some (.agg #[(.slice none 0 0), (.int .i64 0), (.int .i64 0), (.slice none 0 0), (.slice none 0 0)]), 5, 88) := by kernel_rfl
instance : HasI Tryz.prog 42 5 88 [(.slice none 0 0), (.int .i64 0), (.int .i64 0), (.slice none 0 0), (.slice none 0 0)] := HasI.mk_of info42 rfl
instance : HasB Tryz.prog 42 [(0, 1), (1, 4)] := ⟨_, Tryz.underlying42, by kernel_rfl⟩
/- 49: api.Settings -/
instance : HasU Tryz.prog 49 (.struct #[{ name := "Styles", type := 44, offset := 0, embedded := false, tag := "", pkgPath := "", byteOffset := 0 }, { name := "Lists", type := 45, offset := 1, embedded := false, tag := "", pkgPath := "", byteOffset := 24 }, { name := "Comments", type := 46, offset := 2, embedded := false, tag := "", pkgPath := "", byteOffset := 48 }, { name := "Vars", type := 47, offset := 3, embedded := false, tag := "", pkgPath := "", byteOffset := 72 }]) := HasU.mk Tryz.underlying49
theorem info49 : (Tryz.prog.info? 49).map (fun i => (i.zero, i.size, i.bytes)) = some (some (.agg #[(.slice none 0 0), (.slice none 0 0), (.slice none 0 0), (.slice none 0 0)]), 4, 96) := by kernel_rfl
instance : HasI Tryz.prog 49 4 96 [(.slice none 0 0), (.slice none 0 0), (.slice none 0 0), (.slice none 0 0)] := HasI.mk_of info49 rfl
instance : HasB Tryz.prog 49 [(0, 1), (1, 1), (2, 1), (3, 1)] := ⟨_, Tryz.underlying49, by kernel_rfl⟩
/- 51: api.Document -/
instance : HasU Tryz.prog 51 (.struct #[{ name := "Flow", type := 35, offset := 0, embedded := false, tag := "", pkgPath := "", byteOffset := 0 }, { name := "End", type := 42, offset := 1, embedded := false, tag := "", pkgPath := "", byteOffset := 24 }, { name := "Revs", type := 43, offset := 6, embedded := false, tag := "", pkgPath := "", byteOffset := 112 }, { name := "Settings", type := 49, offset := 7, embedded := false, tag := "", pkgPath := "", byteOffset := 136 }]) := HasU.mk Tryz.underlying51
theorem info51 : (Tryz.prog.info? 51).map (fun i => (i.zero, i.size, i.bytes)) = some (some (.agg #[(.slice none 0 0), (.slice none 0 0), (.int .i64 0), (.int .i64 0), (.slice none 0 0), (.slice none 0 0), (.slice none 0 0), (.slice none 0 0), (.slice none 0 0), (.slice none 0 0), (.slice none 0 0)]), 11, 232) := by kernel_rfl
instance : HasI Tryz.prog 51 11 232 [(.slice none 0 0), (.slice none 0 0), (.int .i64 0), (.int .i64 0), (.slice none 0 0), (.slice none 0 0), (.slice none 0 0), (.slice none 0 0), (.slice none 0 0), (.slice none 0 0), (.slice none 0 0)] := HasI.mk_of info51 rfl
instance : HasB Tryz.prog 51 [(0, 1), (1, 5), (6, 1), (7, 4)] := ⟨_, Tryz.underlying51, by kernel_rfl⟩
/- 52: []block.Show -/
instance : HasU Tryz.prog 52 (.slice 89) := HasU.mk Tryz.underlying52
theorem info52 : (Tryz.prog.info? 52).map (fun i => (i.zero, i.size, i.bytes)) = some (some ((.slice none 0 0)), 1, 24) := by kernel_rfl
instance : HasI Tryz.prog 52 1 24 [(.slice none 0 0)] := HasI.mk_of info52 rfl
/- 53: *hyphenate.Hyphenator -/
instance : HasU Tryz.prog 53 (.pointer 565) := HasU.mk Tryz.underlying53
theorem info53 : (Tryz.prog.info? 53).map (fun i => (i.zero, i.size, i.bytes)) = some (some ((.pointer none)), 1, 8) := by kernel_rfl
instance : HasI Tryz.prog 53 1 8 [(.pointer none)] := HasI.mk_of info53 rfl
/- 55: block.Setting -/
instance : HasU Tryz.prog 55 (.struct #[{ name := "Shows", type := 52, offset := 0, embedded := false, tag := "", pkgPath := "", byteOffset := 0 }, { name := "Hyphens", type := 53, offset := 1, embedded := false, tag := "", pkgPath := "", byteOffset := 24 }]) := HasU.mk Tryz.underlying55
theorem info55 : (Tryz.prog.info? 55).map (fun i => (i.zero, i.size, i.bytes)) = some (some (.agg #[(.slice none 0 0), (.pointer none)]), 2, 32) := by kernel_rfl
instance : HasI Tryz.prog 55 2 32 [(.slice none 0 0), (.pointer none)] := HasI.mk_of info55 rfl
instance : HasB Tryz.prog 55 [(0, 1), (1, 1)] := ⟨_, Tryz.underlying55, by kernel_rfl⟩
/- 58: []paginate.Page -/
instance : HasU Tryz.prog 58 (.slice 28) := HasU.mk Tryz.underlying58
theorem info58 : (Tryz.prog.info? 58).map (fun i => (i.zero, i.size, i.bytes)) = some (some ((.slice none 0 0)), 1, 24) := by kernel_rfl
instance : HasI Tryz.prog 58 1 24 [(.slice none 0 0)] := HasI.mk_of info58 rfl
/- 73: []paginate.Piece -/
instance : HasU Tryz.prog 73 (.slice 93) := HasU.mk Tryz.underlying73
theorem info73 : (Tryz.prog.info? 73).map (fun i => (i.zero, i.size, i.bytes)) = some (some ((.slice none 0 0)), 1, 24) := by kernel_rfl
instance : HasI Tryz.prog 73 1 24 [(.slice none 0 0)] := HasI.mk_of info73 rfl
/- 74: []int -/
instance : HasU Tryz.prog 74 (.slice 3) := HasU.mk Tryz.underlying74
theorem info74 : (Tryz.prog.info? 74).map (fun i => (i.zero, i.size, i.bytes)) = some (some ((.slice none 0 0)), 1, 24) := by kernel_rfl
instance : HasI Tryz.prog 74 1 24 [(.slice none 0 0)] := HasI.mk_of info74 rfl
/- 91: []paginate.Foot -/
instance : HasU Tryz.prog 91 (.slice 193) := HasU.mk Tryz.underlying91
theorem info91 : (Tryz.prog.info? 91).map (fun i => (i.zero, i.size, i.bytes)) = some (some ((.slice none 0 0)), 1, 24) := by kernel_rfl
instance : HasI Tryz.prog 91 1 24 [(.slice none 0 0)] := HasI.mk_of info91 rfl
/- 93: paginate.Piece -/
instance : HasU Tryz.prog 93 (.struct #[{ name := "Flow", type := 3, offset := 0, embedded := false, tag := "", pkgPath := "", byteOffset := 0 }, { name := "Block", type := 3, offset := 1, embedded := false, tag := "", pkgPath := "", byteOffset := 8 }, { name := "Part", type := 3, offset := 2, embedded := false, tag := "", pkgPath := "", byteOffset := 16 }, { name := "From", type := 3, offset := 3, embedded := false, tag := "", pkgPath := "", byteOffset := 24 }, { name := "To", type := 3, offset := 4, embedded := false, tag := "", pkgPath := "", byteOffset := 32 }, { name := "Height", type := 3, offset := 5, embedded := false, tag := "", pkgPath := "", byteOffset := 40 }, { name := "Before", type := 3, offset := 6, embedded := false, tag := "", pkgPath := "", byteOffset := 48 }, { name := "After", type := 3, offset := 7, embedded := false, tag := "", pkgPath := "", byteOffset := 56 }, { name := "Repeat", type := 3, offset := 8, embedded := false, tag := "", pkgPath := "", byteOffset := 64 }, { name := "Feet", type := 91, offset := 9, embedded := false, tag := "", pkgPath := "", byteOffset := 72 }, { name := "Force", type := 4, offset := 10, embedded := false, tag := "", pkgPath := "", byteOffset := 96 }, { name := "Keep", type := 4, offset := 11, embedded := false, tag := "", pkgPath := "", byteOffset := 97 }]) := HasU.mk Tryz.underlying93
theorem info93 : (Tryz.prog.info? 93).map (fun i => (i.zero, i.size, i.bytes)) = some (some (.agg #[(.int .i64 0), (.int .i64 0), (.int .i64 0), (.int .i64 0), (.int .i64 0), (.int .i64 0), (.int .i64 0), (.int .i64 0), (.int .i64 0), (.slice none 0 0), (.bool false), (.bool false)]), 12, 104) := by kernel_rfl
instance : HasI Tryz.prog 93 12 104 [(.int .i64 0), (.int .i64 0), (.int .i64 0), (.int .i64 0), (.int .i64 0), (.int .i64 0), (.int .i64 0), (.int .i64 0), (.int .i64 0), (.slice none 0 0), (.bool false), (.bool false)] := HasI.mk_of info93 rfl
instance : HasB Tryz.prog 93 [(0, 1), (1, 1), (2, 1), (3, 1), (4, 1), (5, 1), (6, 1), (7, 1), (8, 1), (9, 1), (10, 1), (11, 1)] := ⟨_, Tryz.underlying93, by kernel_rfl⟩
/- 117: paginate.Slot -/
instance : HasU Tryz.prog 117 (.struct #[{ name := "Flow", type := 3, offset := 0, embedded := false, tag := "", pkgPath := "", byteOffset := 0 }, { name := "Block", type := 3, offset := 1, embedded := false, tag := "", pkgPath := "", byteOffset := 8 }, { name := "Part", type := 3, offset := 2, embedded := false, tag := "", pkgPath := "", byteOffset := 16 }, { name := "Y", type := 3, offset := 3, embedded := false, tag := "", pkgPath := "", byteOffset := 24 }, { name := "Height", type := 3, offset := 4, embedded := false, tag := "", pkgPath := "", byteOffset := 32 }, { name := "Repeated", type := 4, offset := 5, embedded := false, tag := "", pkgPath := "", byteOffset := 40 }]) := HasU.mk Tryz.underlying117
theorem info117 : (Tryz.prog.info? 117).map (fun i => (i.zero, i.size, i.bytes)) = some (some (.agg #[(.int .i64 0), (.int .i64 0), (.int .i64 0), (.int .i64 0), (.int .i64 0), (.bool false)]), 6, 48) := by kernel_rfl
instance : HasI Tryz.prog 117 6 48 [(.int .i64 0), (.int .i64 0), (.int .i64 0), (.int .i64 0), (.int .i64 0), (.bool false)] := HasI.mk_of info117 rfl
instance : HasB Tryz.prog 117 [(0, 1), (1, 1), (2, 1), (3, 1), (4, 1), (5, 1)] := ⟨_, Tryz.underlying117, by kernel_rfl⟩
/- 136: api.Prop -/
instance : HasU Tryz.prog 136 (.struct #[{ name := "Key", type := 3, offset := 0, embedded := false, tag := "", pkgPath := "", byteOffset := 0 }, { name := "Value", type := 3, offset := 1, embedded := false, tag := "", pkgPath := "", byteOffset := 8 }]) := HasU.mk Tryz.underlying136
theorem info136 : (Tryz.prog.info? 136).map (fun i => (i.zero, i.size, i.bytes)) = some (some (.agg #[(.int .i64 0), (.int .i64 0)]), 2, 16) := by kernel_rfl
instance : HasI Tryz.prog 136 2 16 [(.int .i64 0), (.int .i64 0)] := HasI.mk_of info136 rfl
instance : HasB Tryz.prog 136 [(0, 1), (1, 1)] := ⟨_, Tryz.underlying136, by kernel_rfl⟩
/- 153: uint -/
instance : HasU Tryz.prog 153 (.int .u64) := HasU.mk Tryz.underlying153
theorem info153 : (Tryz.prog.info? 153).map (fun i => (i.zero, i.size, i.bytes)) = some (some ((.int .u64 0)), 1, 8) := by kernel_rfl
instance : HasI Tryz.prog 153 1 8 [(.int .u64 0)] := HasI.mk_of info153 rfl
/- 189: paginate.filler -/
instance : HasU Tryz.prog 189 (.struct #[{ name := "repeat", type := 3, offset := 0, embedded := false, tag := "", pkgPath := "obelus/paginate", byteOffset := 0 }, { name := "text", type := 3, offset := 1, embedded := false, tag := "", pkgPath := "obelus/paginate", byteOffset := 8 }, { name := "notes", type := 3, offset := 2, embedded := false, tag := "", pkgPath := "obelus/paginate", byteOffset := 16 }, { name := "feet", type := 3, offset := 3, embedded := false, tag := "", pkgPath := "obelus/paginate", byteOffset := 24 }]) := HasU.mk Tryz.underlying189
theorem info189 : (Tryz.prog.info? 189).map (fun i => (i.zero, i.size, i.bytes)) = some (some (.agg #[(.int .i64 0), (.int .i64 0), (.int .i64 0), (.int .i64 0)]), 4, 32) := by kernel_rfl
instance : HasI Tryz.prog 189 4 32 [(.int .i64 0), (.int .i64 0), (.int .i64 0), (.int .i64 0)] := HasI.mk_of info189 rfl
instance : HasB Tryz.prog 189 [(0, 1), (1, 1), (2, 1), (3, 1)] := ⟨_, Tryz.underlying189, by kernel_rfl⟩
/- 193: paginate.Foot -/
instance : HasU Tryz.prog 193 (.struct #[{ name := "Id", type := 3, offset := 0, embedded := false, tag := "", pkgPath := "", byteOffset := 0 }, { name := "Height", type := 3, offset := 1, embedded := false, tag := "", pkgPath := "", byteOffset := 8 }]) := HasU.mk Tryz.underlying193
theorem info193 : (Tryz.prog.info? 193).map (fun i => (i.zero, i.size, i.bytes)) = some (some (.agg #[(.int .i64 0), (.int .i64 0)]), 2, 16) := by kernel_rfl
instance : HasI Tryz.prog 193 2 16 [(.int .i64 0), (.int .i64 0)] := HasI.mk_of info193 rfl
instance : HasB Tryz.prog 193 [(0, 1), (1, 1)] := ⟨_, Tryz.underlying193, by kernel_rfl⟩
/- 209: *paginate.Piece -/
instance : HasU Tryz.prog 209 (.pointer 93) := HasU.mk Tryz.underlying209
theorem info209 : (Tryz.prog.info? 209).map (fun i => (i.zero, i.size, i.bytes)) = some (some ((.pointer none)), 1, 8) := by kernel_rfl
instance : HasI Tryz.prog 209 1 8 [(.pointer none)] := HasI.mk_of info209 rfl
/- 220: property.key -/
instance : HasU Tryz.prog 220 (.struct #[{ name := "number", type := 3, offset := 0, embedded := false, tag := "", pkgPath := "obelus/property", byteOffset := 0 }, { name := "group", type := 3, offset := 1, embedded := false, tag := "", pkgPath := "obelus/property", byteOffset := 8 }, { name := "low", type := 3, offset := 2, embedded := false, tag := "", pkgPath := "obelus/property", byteOffset := 16 }, { name := "high", type := 3, offset := 3, embedded := false, tag := "", pkgPath := "obelus/property", byteOffset := 24 }, { name := "standard", type := 3, offset := 4, embedded := false, tag := "", pkgPath := "obelus/property", byteOffset := 32 }, { name := "name", type := 9, offset := 5, embedded := false, tag := "", pkgPath := "obelus/property", byteOffset := 40 }]) := HasU.mk Tryz.underlying220
theorem info220 : (Tryz.prog.info? 220).map (fun i => (i.zero, i.size, i.bytes)) = some (some (.agg #[(.int .i64 0), (.int .i64 0), (.int .i64 0), (.int .i64 0), (.int .i64 0), (.string .empty)]), 6, 56) := by kernel_rfl
instance : HasI Tryz.prog 220 6 56 [(.int .i64 0), (.int .i64 0), (.int .i64 0), (.int .i64 0), (.int .i64 0), (.string .empty)] := HasI.mk_of info220 rfl
instance : HasB Tryz.prog 220 [(0, 1), (1, 1), (2, 1), (3, 1), (4, 1), (5, 1)] := ⟨_, Tryz.underlying220, by kernel_rfl⟩
/- 269: []property.key -/
instance : HasU Tryz.prog 269 (.slice 220) := HasU.mk Tryz.underlying269
theorem info269 : (Tryz.prog.info? 269).map (fun i => (i.zero, i.size, i.bytes)) = some (some ((.slice none 0 0)), 1, 24) := by kernel_rfl
instance : HasI Tryz.prog 269 1 24 [(.slice none 0 0)] := HasI.mk_of info269 rfl
/- 484: [2]int -/
instance : HasU Tryz.prog 484 (.array 2 3) := HasU.mk Tryz.underlying484
theorem info484 : (Tryz.prog.info? 484).map (fun i => (i.zero, i.size, i.bytes)) = some (some (.agg #[(.int .i64 0), (.int .i64 0)]), 2, 16) := by kernel_rfl
instance : HasI Tryz.prog 484 2 16 [(.int .i64 0), (.int .i64 0)] := HasI.mk_of info484 rfl
end Go.Proofs.YtnenmpeejjeopaaGreatDoor
