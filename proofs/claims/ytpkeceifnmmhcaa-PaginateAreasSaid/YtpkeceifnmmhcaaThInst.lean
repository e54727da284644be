/- The types of this seat, as the laws of operations ask for them: printed by inst.py. -/
import Derived.Test.YtpkeceifnmmhcaaProg
import Derived.Test.YtpkeceifnmmhcaaThB
import Derived.KernelRfl
namespace Go.Proofs.Ytpkeceifnmmhcaa
open Go.Th

theorem mixed : Try.prog.follows .mixedOrders = true := by kernel_rfl
/- 3: int -/
instance : HasU Try.prog 3 (.int .i64) := HasU.mk Try.underlying3
theorem info3 : (Try.prog.info? 3).map (fun i => (i.zero, i.size, i.bytes)) = some (some ((.int .i64 0)), 1, 8) := by kernel_rfl
instance : HasI Try.prog 3 1 8 [(.int .i64 0)] := HasI.mk_of info3 rfl
/- 4: bool -/
instance : HasU Try.prog 4 (.bool) := HasU.mk Try.underlying4
theorem info4 : (Try.prog.info? 4).map (fun i => (i.zero, i.size, i.bytes)) = some (some ((.bool false)), 1, 1) := by kernel_rfl
instance : HasI Try.prog 4 1 1 [(.bool false)] := HasI.mk_of info4 rfl
/- 5: uint8 -/
instance : HasU Try.prog 5 (.int .u8) := HasU.mk Try.underlying5
theorem info5 : (Try.prog.info? 5).map (fun i => (i.zero, i.size, i.bytes)) = some (some ((.int .u8 0)), 1, 1) := by kernel_rfl
instance : HasI Try.prog 5 1 1 [(.int .u8 0)] := HasI.mk_of info5 rfl
/- 9: string -/
instance : HasU Try.prog 9 (.string) := HasU.mk Try.underlying9
theorem info9 : (Try.prog.info? 9).map (fun i => (i.zero, i.size, i.bytes)) = some (some ((.string .empty)), 1, 16) := by kernel_rfl
instance : HasI Try.prog 9 1 16 [(.string .empty)] := HasI.mk_of info9 rfl
/- 22: []paginate.Piece -/
instance : HasU Try.prog 22 (.slice 43) := HasU.mk Try.underlying22
theorem info22 : (Try.prog.info? 22).map (fun i => (i.zero, i.size, i.bytes)) = some (some ((.slice none 0 0)), 1, 24) := by kernel_rfl
instance : HasI Try.prog 22 1 24 [(.slice none 0 0)] := HasI.mk_of info22 rfl
/- 25: []int -/
instance : HasU Try.prog 25 (.slice 3) := HasU.mk Try.underlying25
theorem info25 : (Try.prog.info? 25).map (fun i => (i.zero, i.size, i.bytes)) = some (some ((.slice none 0 0)), 1, 24) := by kernel_rfl
instance : HasI Try.prog 25 1 24 [(.slice none 0 0)] := HasI.mk_of info25 rfl
/- 26: api.Errno -/
instance : HasU Try.prog 26 (.int .i64) := HasU.mk Try.underlying26
theorem info26 : (Try.prog.info? 26).map (fun i => (i.zero, i.size, i.bytes)) = some (some ((.int .i64 0)), 1, 8) := by kernel_rfl
instance : HasI Try.prog 26 1 8 [(.int .i64 0)] := HasI.mk_of info26 rfl
/- 29: []paginate.Slot -/
instance : HasU Try.prog 29 (.slice 40) := HasU.mk Try.underlying29
theorem info29 : (Try.prog.info? 29).map (fun i => (i.zero, i.size, i.bytes)) = some (some ((.slice none 0 0)), 1, 24) := by kernel_rfl
instance : HasI Try.prog 29 1 24 [(.slice none 0 0)] := HasI.mk_of info29 rfl
/- 31: paginate.Page -/
instance : HasU Try.prog 31 (.struct #[{ name := "Section", type := 3, offset := 0, embedded := false, tag := "", pkgPath := "", byteOffset := 0 }, { name := "Number", type := 3, offset := 1, embedded := false, tag := "", pkgPath := "", byteOffset := 8 }, { name := "Label", type := 9, offset := 2, embedded := false, tag := "", pkgPath := "", byteOffset := 16 }, { name := "Width", type := 3, offset := 3, embedded := false, tag := "", pkgPath := "", byteOffset := 32 }, { name := "Height", type := 3, offset := 4, embedded := false, tag := "", pkgPath := "", byteOffset := 40 }, { name := "Slots", type := 29, offset := 5, embedded := false, tag := "", pkgPath := "", byteOffset := 48 }, { name := "Feet", type := 29, offset := 6, embedded := false, tag := "", pkgPath := "", byteOffset := 72 }, { name := "Used", type := 3, offset := 7, embedded := false, tag := "", pkgPath := "", byteOffset := 96 }, { name := "Over", type := 3, offset := 8, embedded := false, tag := "", pkgPath := "", byteOffset := 104 }]) := HasU.mk Try.underlying31
theorem info31 : (Try.prog.info? 31).map (fun i => (i.zero, i.size, i.bytes)) = some (some (.agg #[(.int .i64 0), (.int .i64 0), (.string .empty), (.int .i64 0), (.int .i64 0), (.slice none 0 0), (.slice none 0 0), (.int .i64 0), (.int .i64 0)]), 9, 112) := by kernel_rfl
instance : HasI Try.prog 31 9 112 [(.int .i64 0), (.int .i64 0), (.string .empty), (.int .i64 0), (.int .i64 0), (.slice none 0 0), (.slice none 0 0), (.int .i64 0), (.int .i64 0)] := HasI.mk_of info31 rfl
instance : HasB Try.prog 31 [(0, 1), (1, 1), (2, 1), (3, 1), (4, 1), (5, 1), (6, 1), (7, 1), (8, 1)] := ⟨_, Try.underlying31, by kernel_rfl⟩
/- 35: [2]int -/
instance : HasU Try.prog 35 (.array 2 3) := HasU.mk Try.underlying35
theorem info35 : (Try.prog.info? 35).map (fun i => (i.zero, i.size, i.bytes)) = some (some (.agg #[(.int .i64 0), (.int .i64 0)]), 2, 16) := by kernel_rfl
instance : HasI Try.prog 35 2 16 [(.int .i64 0), (.int .i64 0)] := HasI.mk_of info35 rfl
/- 40: paginate.Slot -/
instance : HasU Try.prog 40 (.struct #[{ name := "Flow", type := 3, offset := 0, embedded := false, tag := "", pkgPath := "", byteOffset := 0 }, { name := "Block", type := 3, offset := 1, embedded := false, tag := "", pkgPath := "", byteOffset := 8 }, { name := "Part", type := 3, offset := 2, embedded := false, tag := "", pkgPath := "", byteOffset := 16 }, { name := "Y", type := 3, offset := 3, embedded := false, tag := "", pkgPath := "", byteOffset := 24 }, { name := "Height", type := 3, offset := 4, embedded := false, tag := "", pkgPath := "", byteOffset := 32 }, { name := "Repeated", type := 4, offset := 5, embedded := false, tag := "", pkgPath := "", byteOffset := 40 }]) := HasU.mk Try.underlying40
theorem info40 : (Try.prog.info? 40).map (fun i => (i.zero, i.size, i.bytes)) = some (some (.agg #[(.int .i64 0), (.int .i64 0), (.int .i64 0), (.int .i64 0), (.int .i64 0), (.bool false)]), 6, 48) := by kernel_rfl
instance : HasI Try.prog 40 6 48 [(.int .i64 0), (.int .i64 0), (.int .i64 0), (.int .i64 0), (.int .i64 0), (.bool false)] := HasI.mk_of info40 rfl
instance : HasB Try.prog 40 [(0, 1), (1, 1), (2, 1), (3, 1), (4, 1), (5, 1)] := ⟨_, Try.underlying40, by kernel_rfl⟩
/- 41: []paginate.Foot -/
instance : HasU Try.prog 41 (.slice 71) := HasU.mk Try.underlying41
theorem info41 : (Try.prog.info? 41).map (fun i => (i.zero, i.size, i.bytes)) = some (some ((.slice none 0 0)), 1, 24) := by kernel_rfl
instance : HasI Try.prog 41 1 24 [(.slice none 0 0)] := HasI.mk_of info41 rfl
/- 43: paginate.Piece -/
instance : HasU Try.prog 43 (.struct #[{ name := "Flow", type := 3, offset := 0, embedded := false, tag := "", pkgPath := "", byteOffset := 0 }, { name := "Block", type := 3, offset := 1, embedded := false, tag := "", pkgPath := "", byteOffset := 8 }, { name := "Part", type := 3, offset := 2, embedded := false, tag := "", pkgPath := "", byteOffset := 16 }, { name := "From", type := 3, offset := 3, embedded := false, tag := "", pkgPath := "", byteOffset := 24 }, { name := "To", type := 3, offset := 4, embedded := false, tag := "", pkgPath := "", byteOffset := 32 }, { name := "Height", type := 3, offset := 5, embedded := false, tag := "", pkgPath := "", byteOffset := 40 }, { name := "Before", type := 3, offset := 6, embedded := false, tag := "", pkgPath := "", byteOffset := 48 }, { name := "After", type := 3, offset := 7, embedded := false, tag := "", pkgPath := "", byteOffset := 56 }, { name := "Repeat", type := 3, offset := 8, embedded := false, tag := "", pkgPath := "", byteOffset := 64 }, { name := "Feet", type := 41, offset := 9, embedded := false, tag := "", pkgPath := "", byteOffset := 72 }, { name := "Force", type := 4, offset := 10, embedded := false, tag := "", pkgPath := "", byteOffset := 96 }, { name := "Keep", type := 4, offset := 11, embedded := false, tag := "", pkgPath := "", byteOffset := 97 }]) := HasU.mk Try.underlying43
theorem info43 : (Try.prog.info? 43).map (fun i => (i.zero, i.size, i.bytes)) = some (some (.agg #[(.int .i64 0), (.int .i64 0), (.int .i64 0), (.int .i64 0), (.int .i64 0), (.int .i64 0), (.int .i64 0), (.int .i64 0), (.int .i64 0), (.slice none 0 0), (.bool false), (.bool false)]), 12, 104) := by kernel_rfl
instance : HasI Try.prog 43 12 104 [(.int .i64 0), (.int .i64 0), (.int .i64 0), (.int .i64 0), (.int .i64 0), (.int .i64 0), (.int .i64 0), (.int .i64 0), (.int .i64 0), (.slice none 0 0), (.bool false), (.bool false)] := HasI.mk_of info43 rfl
instance : HasB Try.prog 43 [(0, 1), (1, 1), (2, 1), (3, 1), (4, 1), (5, 1), (6, 1), (7, 1), (8, 1), (9, 1), (10, 1), (11, 1)] := ⟨_, Try.underlying43, by kernel_rfl⟩
/- 62: [2]uint8 -/
instance : HasU Try.prog 62 (.array 2 5) := HasU.mk Try.underlying62
theorem info62 : (Try.prog.info? 62).map (fun i => (i.zero, i.size, i.bytes)) = some (some (.agg #[(.int .u8 0), (.int .u8 0)]), 2, 2) := by kernel_rfl
instance : HasI Try.prog 62 2 2 [(.int .u8 0), (.int .u8 0)] := HasI.mk_of info62 rfl
/- 64: []api.Prop -/
instance : HasU Try.prog 64 (.slice 89) := HasU.mk Try.underlying64
theorem info64 : (Try.prog.info? 64).map (fun i => (i.zero, i.size, i.bytes)) = some (some ((.slice none 0 0)), 1, 24) := by kernel_rfl
instance : HasI Try.prog 64 1 24 [(.slice none 0 0)] := HasI.mk_of info64 rfl
/- 71: paginate.Foot -/
instance : HasU Try.prog 71 (.struct #[{ name := "Id", type := 3, offset := 0, embedded := false, tag := "", pkgPath := "", byteOffset := 0 }, { name := "Height", type := 3, offset := 1, embedded := false, tag := "", pkgPath := "", byteOffset := 8 }]) := HasU.mk Try.underlying71
theorem info71 : (Try.prog.info? 71).map (fun i => (i.zero, i.size, i.bytes)) = some (some (.agg #[(.int .i64 0), (.int .i64 0)]), 2, 16) := by kernel_rfl
instance : HasI Try.prog 71 2 16 [(.int .i64 0), (.int .i64 0)] := HasI.mk_of info71 rfl
instance : HasB Try.prog 71 [(0, 1), (1, 1)] := ⟨_, Try.underlying71, by kernel_rfl⟩
/- 77: paginate.filler -/
instance : HasU Try.prog 77 (.struct #[{ name := "repeat", type := 3, offset := 0, embedded := false, tag := "", pkgPath := "obelus/paginate", byteOffset := 0 }, { name := "text", type := 3, offset := 1, embedded := false, tag := "", pkgPath := "obelus/paginate", byteOffset := 8 }, { name := "notes", type := 3, offset := 2, embedded := false, tag := "", pkgPath := "obelus/paginate", byteOffset := 16 }, { name := "feet", type := 3, offset := 3, embedded := false, tag := "", pkgPath := "obelus/paginate", byteOffset := 24 }]) := HasU.mk Try.underlying77
theorem info77 : (Try.prog.info? 77).map (fun i => (i.zero, i.size, i.bytes)) = some (some (.agg #[(.int .i64 0), (.int .i64 0), (.int .i64 0), (.int .i64 0)]), 4, 32) := by kernel_rfl
instance : HasI Try.prog 77 4 32 [(.int .i64 0), (.int .i64 0), (.int .i64 0), (.int .i64 0)] := HasI.mk_of info77 rfl
instance : HasB Try.prog 77 [(0, 1), (1, 1), (2, 1), (3, 1)] := ⟨_, Try.underlying77, by kernel_rfl⟩
/- 89: api.Prop -/
instance : HasU Try.prog 89 (.struct #[{ name := "Key", type := 3, offset := 0, embedded := false, tag := "", pkgPath := "", byteOffset := 0 }, { name := "Value", type := 3, offset := 1, embedded := false, tag := "", pkgPath := "", byteOffset := 8 }]) := HasU.mk Try.underlying89
theorem info89 : (Try.prog.info? 89).map (fun i => (i.zero, i.size, i.bytes)) = some (some (.agg #[(.int .i64 0), (.int .i64 0)]), 2, 16) := by kernel_rfl
instance : HasI Try.prog 89 2 16 [(.int .i64 0), (.int .i64 0)] := HasI.mk_of info89 rfl
instance : HasB Try.prog 89 [(0, 1), (1, 1)] := ⟨_, Try.underlying89, by kernel_rfl⟩
/- 96: *paginate.Piece -/
instance : HasU Try.prog 96 (.pointer 43) := HasU.mk Try.underlying96
theorem info96 : (Try.prog.info? 96).map (fun i => (i.zero, i.size, i.bytes)) = some (some ((.pointer none)), 1, 8) := by kernel_rfl
instance : HasI Try.prog 96 1 8 [(.pointer none)] := HasI.mk_of info96 rfl
/- 102: property.key -/
instance : HasU Try.prog 102 (.struct #[{ name := "number", type := 3, offset := 0, embedded := false, tag := "", pkgPath := "obelus/property", byteOffset := 0 }, { name := "group", type := 3, offset := 1, embedded := false, tag := "", pkgPath := "obelus/property", byteOffset := 8 }, { name := "low", type := 3, offset := 2, embedded := false, tag := "", pkgPath := "obelus/property", byteOffset := 16 }, { name := "high", type := 3, offset := 3, embedded := false, tag := "", pkgPath := "obelus/property", byteOffset := 24 }, { name := "standard", type := 3, offset := 4, embedded := false, tag := "", pkgPath := "obelus/property", byteOffset := 32 }, { name := "name", type := 9, offset := 5, embedded := false, tag := "", pkgPath := "obelus/property", byteOffset := 40 }]) := HasU.mk Try.underlying102
theorem info102 : (Try.prog.info? 102).map (fun i => (i.zero, i.size, i.bytes)) = some (some (.agg #[(.int .i64 0), (.int .i64 0), (.int .i64 0), (.int .i64 0), (.int .i64 0), (.string .empty)]), 6, 56) := by kernel_rfl
instance : HasI Try.prog 102 6 56 [(.int .i64 0), (.int .i64 0), (.int .i64 0), (.int .i64 0), (.int .i64 0), (.string .empty)] := HasI.mk_of info102 rfl
instance : HasB Try.prog 102 [(0, 1), (1, 1), (2, 1), (3, 1), (4, 1), (5, 1)] := ⟨_, Try.underlying102, by kernel_rfl⟩
/- 109: uint -/
instance : HasU Try.prog 109 (.int .u64) := HasU.mk Try.underlying109
theorem info109 : (Try.prog.info? 109).map (fun i => (i.zero, i.size, i.bytes)) = some (some ((.int .u64 0)), 1, 8) := by kernel_rfl
instance : HasI Try.prog 109 1 8 [(.int .u64 0)] := HasI.mk_of info109 rfl
/- 110: []property.key -/
instance : HasU Try.prog 110 (.slice 102) := HasU.mk Try.underlying110
theorem info110 : (Try.prog.info? 110).map (fun i => (i.zero, i.size, i.bytes)) = some (some ((.slice none 0 0)), 1, 24) := by kernel_rfl
instance : HasI Try.prog 110 1 24 [(.slice none 0 0)] := HasI.mk_of info110 rfl
end Go.Proofs.Ytpkeceifnmmhcaa
